/- Walk: the statement on places under others. -/
import Derived.Test.YtdcklngleglbbaaWm
set_option linter.unusedVariables false
set_option linter.unusedSimpArgs false
namespace Go.Proofs.Ytdcklngleglbbaa
open Go Lg

theorem Under_is {I : Imm} {va vb : Value} {xs ys : List Int} {a : Bool} (ha : RInts I va xs) (hb : RInts I vb ys) (h : underL xs ys = a) :
    Does Try.prog 27 [va, vb] I [] (fun v I' δ' => v = .bool a ∧ δ' = []) := by subst h; exact Under_does I ha hb
theorem Under2_is {I : Imm} {va vb : Value} {xs ys : List Int} {a : Bool} (ha : RInts I va xs) (hb : RInts I vb ys) (h : underL xs ys = a) :
    Does Try.prog 28 [va, vb] I [] (fun v I' δ' => v = .bool a ∧ δ' = []) := by subst h; exact Under2_does I ha hb
theorem Apart_is {I : Imm} {va vb : Value} {xs ys : List Int} {a b : Bool} (ha : RInts I va xs) (hb : RInts I vb ys) (h : underL xs ys = a) (k : underL ys xs = b) :
    Does Try.prog 29 [va, vb] I [] (fun v I' δ' => v = .bool (!a && !b) ∧ δ' = []) := by subst h; subst k; exact Apart_does I ha hb
theorem Apart2_is {I : Imm} {va vb : Value} {xs ys : List Int} {a b : Bool} (ha : RInts I va xs) (hb : RInts I vb ys) (h : underL xs ys = a) (k : underL ys xs = b) :
    Does Try.prog 30 [va, vb] I [] (fun v I' δ' => v = .bool (!a && !b) ∧ δ' = []) := by subst h; subst k; exact Apart2_does I ha hb
theorem Ints_is {I : Imm} {va vb : Value} {xs ys : List Int} {a : Bool} (ha : RInts I va xs) (hb : RInts I vb ys) (h : decide (xs = ys) = a) :
    Does Try.prog 31 [va, vb] I [] (fun v I' δ' => v = .bool a ∧ δ' = []) := by subst h; exact Ints_does I ha hb

theorem under_trans {p q o : List Int} (h : underL p q = true) (k : underL q o = true) : underL p o = true := by
  simp only [underL, decide_eq_true_eq] at *
  refine ⟨by omega, ?_⟩
  obtain ⟨h1, h2⟩ := h
  obtain ⟨k1, k2⟩ := k
  rw [k2, List.take_take, Nat.min_eq_left h1] at h2
  exact h2
theorem under_both {p q : List Int} (h : underL p q = true) (k : underL q p = true) : p = q := by
  simp only [underL, decide_eq_true_eq] at *
  have hl : p.length = q.length := by omega
  have := h.2
  rw [hl, List.take_length] at this
  exact this

theorem PlaceUnder_walk {I : Imm} {vp vq vo : Value} {xs ys os : List Int} (hp : RInts I vp xs) (hq : RInts I vq ys) (ho : RInts I vo os) (a b c d e : Bool)
    (h1 : underL xs ys = a) (h2 : underL ys xs = b) (h3 : underL ys os = c) (h4 : underL xs os = d) (h5 : decide (xs = ys) = e) (h6 : (!(a && c) || d) = true) (h7 : (!(a && b) || e) = true) :
    Does Try.prog 5 [vp, vq, vo] I [] (fun v I' δ' => v = .bool true ∧ δ' = []) := by
  obtain ⟨pd, pc, rfl⟩ := hp.shape
  obtain ⟨qd, qc, rfl⟩ := hq.shape
  obtain ⟨od, oc, rfl⟩ := ho.shape
  refine Does.intro Try.func5 rfl Try.ntmps5 rfl fun w0 => ?_
  have hz := hp.len.1
  have hz1 := hq.len.1
  have hz2 := ho.len.1
  cases a <;> cases b <;> cases c <;> cases d <;> cases e <;> first | (exfalso; revert h6 h7; decide) | skip
  all_goals (
    refine code_seq ?_
    refine code_region ?_
    refine op_v (v_assign rfl) rfl ?_
    refine ops_nil ?_
    refine post_next ?_
    refine code_seq ?_
    refine code_seq ?_
    refine code_region ?_
    refine op_v (v_move rfl) rfl ?_
    refine op_v (v_len Try.underlying25 rfl) rfl ?_
    refine op_v (v_move rfl) rfl ?_
    refine op_v (v_len Try.underlying25 rfl) rfl ?_
    first | refine op_v (v_addb rfl rfl rfl (by omega)) rfl ?_ | refine op_v (v_add rfl rfl) rfl ?_
    refine op_v (v_move rfl) rfl ?_
    refine op_v (v_len Try.underlying25 rfl) rfl ?_
    first | refine op_v (v_addb rfl rfl rfl (by omega)) rfl ?_ | refine op_v (v_add rfl rfl) rfl ?_
    first | refine op_v (v_cmpt rfl rfl rfl (by first | omega | (simp; done) | (simp; omega))) rfl ?_ | refine op_v (v_cmpf rfl rfl rfl (by first | omega | (simp; done) | (simp; omega))) rfl ?_ | refine op_v (v_cmp rfl rfl rfl) rfl ?_
    refine ops_nil ?_
    refine post_next ?_
    refine code_cond rfl (fun hc0 => ?_) (fun hc0 => ?_)
    · refine code_seq ?_
      refine code_region ?_
      refine op_v (v_assign rfl) rfl ?_
      refine ops_nil ?_
      refine post_next ?_
      refine code_ret ?_
      refine post_ret_then ?_
      refine post_ret (rs := [.tmp 6]) rfl (List.Perm.refl _) (.cons (.tmp rfl) .nil) (List.nil_sublist _) ?_
      exact ⟨rfl, rfl⟩
    · refine code_skip ?_
      refine post_next ?_
      refine code_seq ?_
      refine code_seq ?_
      refine code_region ?_
      refine op_v (v_move rfl) rfl ?_
      refine op_v (v_move rfl) rfl ?_
      refine op_call pl27 rfl rfl ((Under_is hp hq h1)) Parts.none ?_
      rintro v18 I18 _ hI18 ⟨rfl, rfl⟩
      replace hp := hp.mono hI18
      replace hq := hq.mono hI18
      replace ho := ho.mono hI18
      refine op_v (v_move rfl) rfl ?_
      refine op_v (v_move rfl) rfl ?_
      refine op_call pl28 rfl rfl ((Under2_is hp hq h1)) Parts.none ?_
      rintro v21 I21 _ hI21 ⟨rfl, rfl⟩
      replace hp := hp.mono hI21
      replace hq := hq.mono hI21
      replace ho := ho.mono hI21
      refine op_v (v_eqb Try.underlying4 rfl rfl rfl) rfl ?_
      refine op_v (v_move rfl) rfl ?_
      first
        | (refine op_want rfl rfl ?_
           refine op_v (v_move rfl) rfl ?_)
        | (refine op_skip rfl rfl (by simp [undef]) rfl ?_)
      first
        | (refine op_want rfl rfl ?_
           refine op_v (v_move rfl) rfl ?_)
        | (refine op_skip rfl rfl (by simp [undef]) rfl ?_)
      first
        | (refine op_want rfl rfl ?_
           refine op_call pl29 rfl rfl ((Apart_is hp hq h1 h2)) Parts.none ?_
           rintro v26 I26 _ hI26 ⟨rfl, rfl⟩
           replace hp := hp.mono hI26
           replace hq := hq.mono hI26
           replace ho := ho.mono hI26)
        | (refine op_skip rfl rfl (by simp [undef]) rfl ?_)
      first
        | (refine op_want rfl rfl ?_
           refine op_v (v_move rfl) rfl ?_)
        | (refine op_skip rfl rfl (by simp [undef]) rfl ?_)
      first
        | (refine op_want rfl rfl ?_
           refine op_v (v_move rfl) rfl ?_)
        | (refine op_skip rfl rfl (by simp [undef]) rfl ?_)
      first
        | (refine op_want rfl rfl ?_
           refine op_call pl30 rfl rfl ((Apart2_is hp hq h1 h2)) Parts.none ?_
           rintro v29 I29 _ hI29 ⟨rfl, rfl⟩
           replace hp := hp.mono hI29
           replace hq := hq.mono hI29
           replace ho := ho.mono hI29)
        | (refine op_skip rfl rfl (by simp [undef]) rfl ?_)
      first
        | (refine op_want rfl rfl ?_
           refine op_v (v_eqb Try.underlying4 rfl rfl rfl) rfl ?_)
        | (refine op_skip rfl rfl (by simp [undef]) rfl ?_)
      first | refine op_v (v_pickt rfl rfl) rfl ?_ | refine op_v (v_pickf rfl rfl) rfl ?_ | refine op_v (v_pickb rfl rfl rfl) rfl ?_
      refine op_v (v_move rfl) rfl ?_
      first
        | (refine op_want rfl rfl ?_
           refine op_v (v_move rfl) rfl ?_)
        | (refine op_skip rfl rfl (by simp [undef]) rfl ?_)
      first
        | (refine op_want rfl rfl ?_
           refine op_v (v_move rfl) rfl ?_)
        | (refine op_skip rfl rfl (by simp [undef]) rfl ?_)
      first
        | (refine op_want rfl rfl ?_
           refine op_call pl29 rfl rfl ((Apart_is hp hq h1 h2)) Parts.none ?_
           rintro v35 I35 _ hI35 ⟨rfl, rfl⟩
           replace hp := hp.mono hI35
           replace hq := hq.mono hI35
           replace ho := ho.mono hI35)
        | (refine op_skip rfl rfl (by simp [undef]) rfl ?_)
      first
        | (refine op_want rfl rfl ?_
           refine op_v (v_move rfl) rfl ?_)
        | (refine op_skip rfl rfl (by simp [undef]) rfl ?_)
      first
        | (refine op_want rfl rfl ?_
           refine op_v (v_move rfl) rfl ?_)
        | (refine op_skip rfl rfl (by simp [undef]) rfl ?_)
      first
        | (refine op_want rfl rfl ?_
           refine op_call pl29 rfl rfl ((Apart_is hq hp h2 h1)) Parts.none ?_
           rintro v38 I38 _ hI38 ⟨rfl, rfl⟩
           replace hp := hp.mono hI38
           replace hq := hq.mono hI38
           replace ho := ho.mono hI38)
        | (refine op_skip rfl rfl (by simp [undef]) rfl ?_)
      first
        | (refine op_want rfl rfl ?_
           refine op_v (v_eqb Try.underlying4 rfl rfl rfl) rfl ?_)
        | (refine op_skip rfl rfl (by simp [undef]) rfl ?_)
      first | refine op_v (v_pickt rfl rfl) rfl ?_ | refine op_v (v_pickf rfl rfl) rfl ?_ | refine op_v (v_pickb rfl rfl rfl) rfl ?_
      refine ops_nil ?_
      refine post_next ?_
      refine code_cond_f rfl ?_
      refine code_skip ?_
      refine post_next ?_
      refine code_seq ?_
      refine code_region ?_
      refine op_call pl22 rfl rfl ((awake2_does _)) Parts.none ?_
      rintro v41 I41 _ hI41 ⟨rfl, rfl⟩
      replace hp := hp.mono hI41
      replace hq := hq.mono hI41
      replace ho := ho.mono hI41
      refine op_v (v_move rfl) rfl ?_
      first
        | (refine op_want rfl rfl ?_
           refine op_v (v_move rfl) rfl ?_)
        | (refine op_skip rfl rfl (by simp [undef]) rfl ?_)
      first
        | (refine op_want rfl rfl ?_
           refine op_v (v_move rfl) rfl ?_)
        | (refine op_skip rfl rfl (by simp [undef]) rfl ?_)
      first
        | (refine op_want rfl rfl ?_
           refine op_call pl27 rfl rfl ((Under_is hp hq h1)) Parts.none ?_
           rintro v45 I45 _ hI45 ⟨rfl, rfl⟩
           replace hp := hp.mono hI45
           replace hq := hq.mono hI45
           replace ho := ho.mono hI45)
        | (refine op_skip rfl rfl (by simp [undef]) rfl ?_)
      first
        | (refine op_want rfl rfl ?_
           refine op_v (v_not rfl) rfl ?_)
        | (refine op_skip rfl rfl (by simp [undef]) rfl ?_)
      first
        | (refine op_want rfl rfl ?_
           refine op_v (v_move rfl) rfl ?_)
        | (refine op_skip rfl rfl (by simp [undef]) rfl ?_)
      first
        | (refine op_want rfl rfl ?_
           refine op_v (v_move rfl) rfl ?_)
        | (refine op_skip rfl rfl (by simp [undef]) rfl ?_)
      first
        | (refine op_want rfl rfl ?_
           refine op_v (v_move rfl) rfl ?_)
        | (refine op_skip rfl rfl (by simp [undef]) rfl ?_)
      first
        | (refine op_want rfl rfl ?_
           refine op_call pl27 rfl rfl ((Under_is hq ho h3)) Parts.none ?_
           rintro v50 I50 _ hI50 ⟨rfl, rfl⟩
           replace hp := hp.mono hI50
           replace hq := hq.mono hI50
           replace ho := ho.mono hI50)
        | (refine op_skip rfl rfl (by simp [undef]) rfl ?_)
      first
        | (refine op_want rfl rfl ?_
           refine op_v (v_not rfl) rfl ?_)
        | (refine op_skip rfl rfl (by simp [undef]) rfl ?_)
      first
        | (refine op_want rfl rfl ?_
           first | refine op_v (v_pickt rfl rfl) rfl ?_ | refine op_v (v_pickf rfl rfl) rfl ?_ | refine op_v (v_pickb rfl rfl rfl) rfl ?_)
        | (refine op_skip rfl rfl (by simp [undef]) rfl ?_)
      first
        | (refine op_want rfl rfl ?_
           refine op_v (v_move rfl) rfl ?_)
        | (refine op_skip rfl rfl (by simp [undef]) rfl ?_)
      first
        | (refine op_want rfl rfl ?_
           refine op_v (v_move rfl) rfl ?_)
        | (refine op_skip rfl rfl (by simp [undef]) rfl ?_)
      first
        | (refine op_want rfl rfl ?_
           refine op_v (v_move rfl) rfl ?_)
        | (refine op_skip rfl rfl (by simp [undef]) rfl ?_)
      first
        | (refine op_want rfl rfl ?_
           refine op_call pl27 rfl rfl ((Under_is hp ho h4)) Parts.none ?_
           rintro v56 I56 _ hI56 ⟨rfl, rfl⟩
           replace hp := hp.mono hI56
           replace hq := hq.mono hI56
           replace ho := ho.mono hI56)
        | (refine op_skip rfl rfl (by simp [undef]) rfl ?_)
      first
        | (refine op_want rfl rfl ?_
           first | refine op_v (v_pickt rfl rfl) rfl ?_ | refine op_v (v_pickf rfl rfl) rfl ?_ | refine op_v (v_pickb rfl rfl rfl) rfl ?_)
        | (refine op_skip rfl rfl (by simp [undef]) rfl ?_)
      first | refine op_v (v_pickt rfl rfl) rfl ?_ | refine op_v (v_pickf rfl rfl) rfl ?_ | refine op_v (v_pickb rfl rfl rfl) rfl ?_
      refine op_v (v_move rfl) rfl ?_
      first
        | (refine op_want rfl rfl ?_
           refine op_v (v_move rfl) rfl ?_)
        | (refine op_skip rfl rfl (by simp [undef]) rfl ?_)
      first
        | (refine op_want rfl rfl ?_
           refine op_v (v_move rfl) rfl ?_)
        | (refine op_skip rfl rfl (by simp [undef]) rfl ?_)
      first
        | (refine op_want rfl rfl ?_
           refine op_call pl27 rfl rfl ((Under_is hp hq h1)) Parts.none ?_
           rintro v62 I62 _ hI62 ⟨rfl, rfl⟩
           replace hp := hp.mono hI62
           replace hq := hq.mono hI62
           replace ho := ho.mono hI62)
        | (refine op_skip rfl rfl (by simp [undef]) rfl ?_)
      first
        | (refine op_want rfl rfl ?_
           refine op_v (v_not rfl) rfl ?_)
        | (refine op_skip rfl rfl (by simp [undef]) rfl ?_)
      first
        | (refine op_want rfl rfl ?_
           refine op_v (v_move rfl) rfl ?_)
        | (refine op_skip rfl rfl (by simp [undef]) rfl ?_)
      first
        | (refine op_want rfl rfl ?_
           refine op_v (v_move rfl) rfl ?_)
        | (refine op_skip rfl rfl (by simp [undef]) rfl ?_)
      first
        | (refine op_want rfl rfl ?_
           refine op_v (v_move rfl) rfl ?_)
        | (refine op_skip rfl rfl (by simp [undef]) rfl ?_)
      first
        | (refine op_want rfl rfl ?_
           refine op_call pl27 rfl rfl ((Under_is hq hp h2)) Parts.none ?_
           rintro v67 I67 _ hI67 ⟨rfl, rfl⟩
           replace hp := hp.mono hI67
           replace hq := hq.mono hI67
           replace ho := ho.mono hI67)
        | (refine op_skip rfl rfl (by simp [undef]) rfl ?_)
      first
        | (refine op_want rfl rfl ?_
           refine op_v (v_not rfl) rfl ?_)
        | (refine op_skip rfl rfl (by simp [undef]) rfl ?_)
      first
        | (refine op_want rfl rfl ?_
           first | refine op_v (v_pickt rfl rfl) rfl ?_ | refine op_v (v_pickf rfl rfl) rfl ?_ | refine op_v (v_pickb rfl rfl rfl) rfl ?_)
        | (refine op_skip rfl rfl (by simp [undef]) rfl ?_)
      first
        | (refine op_want rfl rfl ?_
           refine op_v (v_move rfl) rfl ?_)
        | (refine op_skip rfl rfl (by simp [undef]) rfl ?_)
      first
        | (refine op_want rfl rfl ?_
           refine op_v (v_move rfl) rfl ?_)
        | (refine op_skip rfl rfl (by simp [undef]) rfl ?_)
      first
        | (refine op_want rfl rfl ?_
           refine op_v (v_move rfl) rfl ?_)
        | (refine op_skip rfl rfl (by simp [undef]) rfl ?_)
      first
        | (refine op_want rfl rfl ?_
           refine op_call pl31 rfl rfl ((Ints_is hp hq h5)) Parts.none ?_
           rintro v73 I73 _ hI73 ⟨rfl, rfl⟩
           replace hp := hp.mono hI73
           replace hq := hq.mono hI73
           replace ho := ho.mono hI73)
        | (refine op_skip rfl rfl (by simp [undef]) rfl ?_)
      first
        | (refine op_want rfl rfl ?_
           first | refine op_v (v_pickt rfl rfl) rfl ?_ | refine op_v (v_pickf rfl rfl) rfl ?_ | refine op_v (v_pickb rfl rfl rfl) rfl ?_)
        | (refine op_skip rfl rfl (by simp [undef]) rfl ?_)
      first | refine op_v (v_pickt rfl rfl) rfl ?_ | refine op_v (v_pickf rfl rfl) rfl ?_ | refine op_v (v_pickb rfl rfl rfl) rfl ?_
      refine op_v (v_assign rfl) rfl ?_
      refine ops_nil ?_
      refine post_next ?_
      refine code_ret ?_
      refine post_ret (rs := [.tmp 6]) rfl (List.Perm.refl _) (.cons (.tmp rfl) .nil) (List.nil_sublist _) ?_
      exact ⟨rfl, rfl⟩
  )

theorem PlaceUnder_does {I : Imm} {vp vq vo : Value} {xs ys os : List Int} (hp : RInts I vp xs) (hq : RInts I vq ys) (ho : RInts I vo os) :
    Does Try.prog 5 [vp, vq, vo] I [] (fun v I' δ' => v = .bool true ∧ δ' = []) := by
  refine PlaceUnder_walk hp hq ho _ _ _ _ _ rfl rfl rfl rfl rfl ?_ ?_
  · cases h1 : underL xs ys
    · rfl
    · cases h2 : underL ys os
      · rfl
      · rw [under_trans h1 h2]; rfl
  · cases h1 : underL xs ys
    · rfl
    · cases h2 : underL ys xs
      · rfl
      · simp [under_both h1 h2]
end Go.Proofs.Ytdcklngleglbbaa
