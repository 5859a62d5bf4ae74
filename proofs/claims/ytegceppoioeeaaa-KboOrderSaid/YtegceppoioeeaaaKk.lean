/- Walks: the statement that it is an order. -/
import Derived.Test.YtegceppoioeeaaaZ5
set_option linter.unusedVariables false
set_option linter.unusedSimpArgs false
namespace Go.Proofs.Ytegceppoioeeaaa
open Go Lg

theorem varsP_nil : ∀ {l : List (Nat × T)}, varsP l = [] → ∀ x ∈ l, 0 ≤ x.2.head := by
  intro l
  induction l using snoc_ind with
  | h0 => intro _ x hx; cases hx
  | h1 l y ih =>
    intro h x hx
    rw [varsP_snoc] at h
    by_cases hc : 0 ≤ -1 - y.2.head ∧ -1 - y.2.head ∉ varsP l
    · rw [if_pos hc] at h; simp at h
    · rw [if_neg hc] at h
      rcases List.mem_append.1 hx with hx | hx
      · exact ih h x hx
      · simp at hx; subst hx
        rw [h] at hc
        have : ¬ 0 ≤ -1 - x.2.head := fun q => hc ⟨q, by simp⟩
        omega
theorem vars_ground {t : T} (h : (varsP (partsT 1 t)).length = 0) : ∀ k ∈ hds t, 0 ≤ k := by
  intro k hk
  obtain ⟨x, hx, rfl⟩ := List.mem_map.1 hk
  have h2 : x.2 ∈ (partsT 1 t).map (·.2) := by rw [snd_T 1 true t]; exact List.mem_map_of_mem hx
  obtain ⟨y, hy, hyx⟩ := List.mem_map.1 h2
  rw [← hyx]
  exact varsP_nil (List.eq_nil_of_length_eq_zero h) y hy
theorem wrong2 {gs : List Sy} {a b : T} (h : wrongG gs [a, b] = 0) : OkG gs a ∧ OkG gs b := by
  have := wrongG_ok.1 h; exact ⟨this a (by simp), this b (by simp)⟩

theorem KboOrder_does {I : Imm} {vg va vb vc : Value} {gs : List Sy} {a b c : T} (hg : RepG I vg gs) (hva : RepT I va a) (hvb : RepT I vb b) (hvc : RepT I vc c) :
    Does Try.prog 9 [vg, va, vb, vc] I [] (fun v I' δ' => v = .bool true ∧ δ' = []) := by
  obtain ⟨a0, a1, rfl, _⟩ := hva.shape
  obtain ⟨b0, b1, rfl, _⟩ := hvb.shape
  obtain ⟨c0, c1, rfl, _⟩ := hvc.shape
  refine Does.intro Try.func9 rfl Try.ntmps9 rfl fun w0 => ?_
  refine code_seq ?_
  refine code_region ?_
  refine o_box rfl rfl rfl (fun b5 => ?_)
  refine o_box rfl rfl rfl (fun b6 => ?_)
  refine o_box rfl rfl rfl (fun b7 => ?_)
  refine op_v (v_assign rfl) rfl ?_
  refine ops_nil ?_
  refine post_next ?_
  refine code_seq ?_
  refine code_seq ?_
  refine code_region ?_
  refine op_v (v_move rfl) rfl ?_
  refine op_v (v_load ty25 rfl (by repeat (first | exact Has.here | apply Has.there)) rfl) rfl ?_
  refine op_v (v_load ty25 rfl (by repeat (first | exact Has.here | apply Has.there)) rfl) rfl ?_
  refine op_v (v_load ty25 rfl (by repeat (first | exact Has.here | apply Has.there)) rfl) rfl ?_
  refine o_buildSlice (xs := [(Go.Operand.tmp 18), (Go.Operand.tmp 19), (Go.Operand.tmp 20)]) Try.underlying23 bs25 rfl rfl rfl rfl rfl (fun b21 => ?_)
  refine OpsJ.freezeRow Del.here ?_
  rintro I21 a21 c21 hI21 hq hc21 hl21 hcells21
  cases hq
  refine op_call pl28 rfl rfl ((few8_does (hg.mono (by repeat (first | exact Imm.le_refl _ | assumption | refine Imm.le_trans ?_ (by assumption)))) (RowT.repS (ts := [a, b, c]) rfl hcells21 ((RowT.one (hva.mono (by repeat (first | exact Imm.le_refl _ | assumption | refine Imm.le_trans ?_ (by assumption))))).app ((RowT.one (hvb.mono (by repeat (first | exact Imm.le_refl _ | assumption | refine Imm.le_trans ?_ (by assumption))))).app (RowT.one (hvc.mono (by repeat (first | exact Imm.le_refl _ | assumption | refine Imm.le_trans ?_ (by assumption))))))) hc21 (by simp)))) Parts.none ?_
  rintro v22 I22 _ hI22 ⟨⟨b22, rfl, hb22⟩, rfl⟩
  by_cases h23 : b22 = true
  · subst h23
    have hall := hb22 rfl
    have hsa : a.size ≤ 500 := hall a (by simp)
    have hsb : b.size ≤ 500 := hall b (by simp)
    have hsc : c.size ≤ 500 := hall c (by simp)
    refine op_v (v_not rfl) rfl ?_
    refine ops_nil ?_
    refine post_next ?_
    refine code_cond_f rfl ?_
    refine code_skip ?_
    refine post_next ?_
    refine code_seq ?_
    refine code_region ?_
    refine op_v (v_move rfl) rfl ?_
    refine op_v (v_load ty25 rfl (by repeat (first | exact Has.here | apply Has.there)) rfl) rfl ?_
    refine op_v (v_load ty25 rfl (by repeat (first | exact Has.here | apply Has.there)) rfl) rfl ?_
    refine op_call pl19 rfl rfl ((KCompare_does (hg.mono (by repeat (first | exact Imm.le_refl _ | assumption | refine Imm.le_trans ?_ (by assumption)))) (hva.mono (by repeat (first | exact Imm.le_refl _ | assumption | refine Imm.le_trans ?_ (by assumption)))) (hvb.mono (by repeat (first | exact Imm.le_refl _ | assumption | refine Imm.le_trans ?_ (by assumption)))) (by omega) (by omega))) Parts.none ?_
    rintro v28 I28 _ hI28 ⟨rfl, rfl⟩
    refine op_v (v_move rfl) rfl ?_
    refine op_v (v_extract rfl rfl) rfl ?_
    refine op_v (v_extract rfl rfl) rfl ?_
    refine op_v (v_assign rfl) rfl ?_
    refine op_v (v_assign rfl) rfl ?_
    refine ops_nil ?_
    refine post_next ?_
    refine code_seq ?_
    refine code_region ?_
    refine op_v (v_move rfl) rfl ?_
    refine op_v (v_load ty25 rfl (by repeat (first | exact Has.here | apply Has.there)) rfl) rfl ?_
    refine op_v (v_load ty25 rfl (by repeat (first | exact Has.here | apply Has.there)) rfl) rfl ?_
    refine op_call pl19 rfl rfl ((KCompare_does (hg.mono (by repeat (first | exact Imm.le_refl _ | assumption | refine Imm.le_trans ?_ (by assumption)))) (hvb.mono (by repeat (first | exact Imm.le_refl _ | assumption | refine Imm.le_trans ?_ (by assumption)))) (hvc.mono (by repeat (first | exact Imm.le_refl _ | assumption | refine Imm.le_trans ?_ (by assumption)))) (by omega) (by omega))) Parts.none ?_
    rintro v35 I35 _ hI35 ⟨rfl, rfl⟩
    refine op_v (v_move rfl) rfl ?_
    refine op_v (v_extract rfl rfl) rfl ?_
    refine op_v (v_extract rfl rfl) rfl ?_
    refine op_v (v_assign rfl) rfl ?_
    refine op_v (v_assign rfl) rfl ?_
    refine ops_nil ?_
    refine post_next ?_
    refine code_seq ?_
    refine code_region ?_
    refine op_v (v_move rfl) rfl ?_
    refine op_v (v_load ty25 rfl (by repeat (first | exact Has.here | apply Has.there)) rfl) rfl ?_
    refine op_v (v_load ty25 rfl (by repeat (first | exact Has.here | apply Has.there)) rfl) rfl ?_
    refine op_call pl19 rfl rfl ((KCompare_does (hg.mono (by repeat (first | exact Imm.le_refl _ | assumption | refine Imm.le_trans ?_ (by assumption)))) (hva.mono (by repeat (first | exact Imm.le_refl _ | assumption | refine Imm.le_trans ?_ (by assumption)))) (hvc.mono (by repeat (first | exact Imm.le_refl _ | assumption | refine Imm.le_trans ?_ (by assumption)))) (by omega) (by omega))) Parts.none ?_
    rintro v42 I42 _ hI42 ⟨rfl, rfl⟩
    refine op_v (v_move rfl) rfl ?_
    refine op_v (v_extract rfl rfl) rfl ?_
    refine op_v (v_extract rfl rfl) rfl ?_
    refine op_v (v_assign rfl) rfl ?_
    refine op_v (v_assign rfl) rfl ?_
    refine ops_nil ?_
    refine post_next ?_
    refine code_seq ?_
    refine code_region ?_
    refine op_v (v_move rfl) rfl ?_
    refine op_v (v_load ty25 rfl (by repeat (first | exact Has.here | apply Has.there)) rfl) rfl ?_
    refine op_v (v_load ty25 rfl (by repeat (first | exact Has.here | apply Has.there)) rfl) rfl ?_
    refine op_call pl19 rfl rfl ((KCompare_does (hg.mono (by repeat (first | exact Imm.le_refl _ | assumption | refine Imm.le_trans ?_ (by assumption)))) (hvb.mono (by repeat (first | exact Imm.le_refl _ | assumption | refine Imm.le_trans ?_ (by assumption)))) (hva.mono (by repeat (first | exact Imm.le_refl _ | assumption | refine Imm.le_trans ?_ (by assumption)))) (by omega) (by omega))) Parts.none ?_
    rintro v49 I49 _ hI49 ⟨rfl, rfl⟩
    refine op_v (v_move rfl) rfl ?_
    refine op_v (v_extract rfl rfl) rfl ?_
    refine op_v (v_extract rfl rfl) rfl ?_
    refine op_v (v_assign rfl) rfl ?_
    refine op_v (v_assign rfl) rfl ?_
    refine ops_nil ?_
    refine post_next ?_
    refine code_seq ?_
    refine code_seq ?_
    refine code_region ?_
    refine op_v (v_move rfl) rfl ?_
    by_cases h53 : wrongG gs [a, b] ≠ 0
    · first | refine op_v (v_cmpt rfl rfl rfl (by first | omega | (simp; done) | (simp; omega))) rfl ?_ | refine op_v (v_cmpf rfl rfl rfl (by first | omega | (simp; done) | (simp; omega))) rfl ?_ | refine op_v (v_cmp rfl rfl rfl) rfl ?_
      refine op_v (v_move rfl) rfl ?_
      first
        | (refine op_want rfl rfl ?_
           refine op_v (v_move rfl) rfl ?_)
        | (refine op_skip rfl rfl (by simp [undef]) rfl ?_)
      first
        | (refine op_want rfl rfl ?_
           first | refine op_v (v_cmpt rfl rfl rfl (by first | omega | (simp; done) | (simp; omega))) rfl ?_ | refine op_v (v_cmpf rfl rfl rfl (by first | omega | (simp; done) | (simp; omega))) rfl ?_ | refine op_v (v_cmp rfl rfl rfl) rfl ?_)
        | (refine op_skip rfl rfl (by simp [undef]) rfl ?_)
      first | refine op_v (v_pickt rfl rfl) rfl ?_ | refine op_v (v_pickf rfl rfl) rfl ?_ | refine op_v (v_pickb rfl rfl rfl) rfl ?_
      refine op_v (v_move rfl) rfl ?_
      first
        | (refine op_want rfl rfl ?_
           refine op_v (v_move rfl) rfl ?_)
        | (refine op_skip rfl rfl (by simp [undef]) rfl ?_)
      first
        | (refine op_want rfl rfl ?_
           first | refine op_v (v_cmpt rfl rfl rfl (by first | omega | (simp; done) | (simp; omega))) rfl ?_ | refine op_v (v_cmpf rfl rfl rfl (by first | omega | (simp; done) | (simp; omega))) rfl ?_ | refine op_v (v_cmp rfl rfl rfl) rfl ?_)
        | (refine op_skip rfl rfl (by simp [undef]) rfl ?_)
      first | refine op_v (v_pickt rfl rfl) rfl ?_ | refine op_v (v_pickf rfl rfl) rfl ?_ | refine op_v (v_pickb rfl rfl rfl) rfl ?_
      refine op_v (v_move rfl) rfl ?_
      first
        | (refine op_want rfl rfl ?_
           refine op_v (v_move rfl) rfl ?_)
        | (refine op_skip rfl rfl (by simp [undef]) rfl ?_)
      first
        | (refine op_want rfl rfl ?_
           first | refine op_v (v_cmpt rfl rfl rfl (by first | omega | (simp; done) | (simp; omega))) rfl ?_ | refine op_v (v_cmpf rfl rfl rfl (by first | omega | (simp; done) | (simp; omega))) rfl ?_ | refine op_v (v_cmp rfl rfl rfl) rfl ?_)
        | (refine op_skip rfl rfl (by simp [undef]) rfl ?_)
      first | refine op_v (v_pickt rfl rfl) rfl ?_ | refine op_v (v_pickf rfl rfl) rfl ?_ | refine op_v (v_pickb rfl rfl rfl) rfl ?_
      refine ops_nil ?_
      refine post_next ?_
      refine code_cond_t rfl ?_
      refine code_seq ?_
      refine code_region ?_
      refine op_call pl30 rfl rfl ((awake8_does _)) Parts.none ?_
      rintro v66 I66 _ hI66 ⟨rfl, rfl⟩
      refine op_v (v_assign rfl) rfl ?_
      refine ops_nil ?_
      refine post_next ?_
      refine code_ret ?_
      refine post_ret_then ?_
      refine post_ret (rs := [.tmp 8]) rfl (List.Perm.refl _) (.cons (.tmp rfl) .nil) (List.nil_sublist _) ?_
      exact ⟨rfl, rfl⟩
    · first | refine op_v (v_cmpt rfl rfl rfl (by first | omega | (simp; done) | (simp; omega))) rfl ?_ | refine op_v (v_cmpf rfl rfl rfl (by first | omega | (simp; done) | (simp; omega))) rfl ?_ | refine op_v (v_cmp rfl rfl rfl) rfl ?_
      refine op_v (v_move rfl) rfl ?_
      first
        | (refine op_want rfl rfl ?_
           refine op_v (v_move rfl) rfl ?_)
        | (refine op_skip rfl rfl (by simp [undef]) rfl ?_)
      by_cases h56 : wrongG gs [b, c] ≠ 0
      · first
          | (refine op_want rfl rfl ?_
             first | refine op_v (v_cmpt rfl rfl rfl (by first | omega | (simp; done) | (simp; omega))) rfl ?_ | refine op_v (v_cmpf rfl rfl rfl (by first | omega | (simp; done) | (simp; omega))) rfl ?_ | refine op_v (v_cmp rfl rfl rfl) rfl ?_)
          | (refine op_skip rfl rfl (by simp [undef]) rfl ?_)
        first | refine op_v (v_pickt rfl rfl) rfl ?_ | refine op_v (v_pickf rfl rfl) rfl ?_ | refine op_v (v_pickb rfl rfl rfl) rfl ?_
        refine op_v (v_move rfl) rfl ?_
        first
          | (refine op_want rfl rfl ?_
             refine op_v (v_move rfl) rfl ?_)
          | (refine op_skip rfl rfl (by simp [undef]) rfl ?_)
        first
          | (refine op_want rfl rfl ?_
             first | refine op_v (v_cmpt rfl rfl rfl (by first | omega | (simp; done) | (simp; omega))) rfl ?_ | refine op_v (v_cmpf rfl rfl rfl (by first | omega | (simp; done) | (simp; omega))) rfl ?_ | refine op_v (v_cmp rfl rfl rfl) rfl ?_)
          | (refine op_skip rfl rfl (by simp [undef]) rfl ?_)
        first | refine op_v (v_pickt rfl rfl) rfl ?_ | refine op_v (v_pickf rfl rfl) rfl ?_ | refine op_v (v_pickb rfl rfl rfl) rfl ?_
        refine op_v (v_move rfl) rfl ?_
        first
          | (refine op_want rfl rfl ?_
             refine op_v (v_move rfl) rfl ?_)
          | (refine op_skip rfl rfl (by simp [undef]) rfl ?_)
        first
          | (refine op_want rfl rfl ?_
             first | refine op_v (v_cmpt rfl rfl rfl (by first | omega | (simp; done) | (simp; omega))) rfl ?_ | refine op_v (v_cmpf rfl rfl rfl (by first | omega | (simp; done) | (simp; omega))) rfl ?_ | refine op_v (v_cmp rfl rfl rfl) rfl ?_)
          | (refine op_skip rfl rfl (by simp [undef]) rfl ?_)
        first | refine op_v (v_pickt rfl rfl) rfl ?_ | refine op_v (v_pickf rfl rfl) rfl ?_ | refine op_v (v_pickb rfl rfl rfl) rfl ?_
        refine ops_nil ?_
        refine post_next ?_
        refine code_cond_t rfl ?_
        refine code_seq ?_
        refine code_region ?_
        refine op_call pl30 rfl rfl ((awake8_does _)) Parts.none ?_
        rintro v66 I66 _ hI66 ⟨rfl, rfl⟩
        refine op_v (v_assign rfl) rfl ?_
        refine ops_nil ?_
        refine post_next ?_
        refine code_ret ?_
        refine post_ret_then ?_
        refine post_ret (rs := [.tmp 8]) rfl (List.Perm.refl _) (.cons (.tmp rfl) .nil) (List.nil_sublist _) ?_
        exact ⟨rfl, rfl⟩
      · first
          | (refine op_want rfl rfl ?_
             first | refine op_v (v_cmpt rfl rfl rfl (by first | omega | (simp; done) | (simp; omega))) rfl ?_ | refine op_v (v_cmpf rfl rfl rfl (by first | omega | (simp; done) | (simp; omega))) rfl ?_ | refine op_v (v_cmp rfl rfl rfl) rfl ?_)
          | (refine op_skip rfl rfl (by simp [undef]) rfl ?_)
        first | refine op_v (v_pickt rfl rfl) rfl ?_ | refine op_v (v_pickf rfl rfl) rfl ?_ | refine op_v (v_pickb rfl rfl rfl) rfl ?_
        refine op_v (v_move rfl) rfl ?_
        first
          | (refine op_want rfl rfl ?_
             refine op_v (v_move rfl) rfl ?_)
          | (refine op_skip rfl rfl (by simp [undef]) rfl ?_)
        by_cases h60 : wrongG gs [a, c] ≠ 0
        · first
            | (refine op_want rfl rfl ?_
               first | refine op_v (v_cmpt rfl rfl rfl (by first | omega | (simp; done) | (simp; omega))) rfl ?_ | refine op_v (v_cmpf rfl rfl rfl (by first | omega | (simp; done) | (simp; omega))) rfl ?_ | refine op_v (v_cmp rfl rfl rfl) rfl ?_)
            | (refine op_skip rfl rfl (by simp [undef]) rfl ?_)
          first | refine op_v (v_pickt rfl rfl) rfl ?_ | refine op_v (v_pickf rfl rfl) rfl ?_ | refine op_v (v_pickb rfl rfl rfl) rfl ?_
          refine op_v (v_move rfl) rfl ?_
          first
            | (refine op_want rfl rfl ?_
               refine op_v (v_move rfl) rfl ?_)
            | (refine op_skip rfl rfl (by simp [undef]) rfl ?_)
          first
            | (refine op_want rfl rfl ?_
               first | refine op_v (v_cmpt rfl rfl rfl (by first | omega | (simp; done) | (simp; omega))) rfl ?_ | refine op_v (v_cmpf rfl rfl rfl (by first | omega | (simp; done) | (simp; omega))) rfl ?_ | refine op_v (v_cmp rfl rfl rfl) rfl ?_)
            | (refine op_skip rfl rfl (by simp [undef]) rfl ?_)
          first | refine op_v (v_pickt rfl rfl) rfl ?_ | refine op_v (v_pickf rfl rfl) rfl ?_ | refine op_v (v_pickb rfl rfl rfl) rfl ?_
          refine ops_nil ?_
          refine post_next ?_
          refine code_cond_t rfl ?_
          refine code_seq ?_
          refine code_region ?_
          refine op_call pl30 rfl rfl ((awake8_does _)) Parts.none ?_
          rintro v66 I66 _ hI66 ⟨rfl, rfl⟩
          refine op_v (v_assign rfl) rfl ?_
          refine ops_nil ?_
          refine post_next ?_
          refine code_ret ?_
          refine post_ret_then ?_
          refine post_ret (rs := [.tmp 8]) rfl (List.Perm.refl _) (.cons (.tmp rfl) .nil) (List.nil_sublist _) ?_
          exact ⟨rfl, rfl⟩
        · first
            | (refine op_want rfl rfl ?_
               first | refine op_v (v_cmpt rfl rfl rfl (by first | omega | (simp; done) | (simp; omega))) rfl ?_ | refine op_v (v_cmpf rfl rfl rfl (by first | omega | (simp; done) | (simp; omega))) rfl ?_ | refine op_v (v_cmp rfl rfl rfl) rfl ?_)
            | (refine op_skip rfl rfl (by simp [undef]) rfl ?_)
          first | refine op_v (v_pickt rfl rfl) rfl ?_ | refine op_v (v_pickf rfl rfl) rfl ?_ | refine op_v (v_pickb rfl rfl rfl) rfl ?_
          refine op_v (v_move rfl) rfl ?_
          first
            | (refine op_want rfl rfl ?_
               refine op_v (v_move rfl) rfl ?_)
            | (refine op_skip rfl rfl (by simp [undef]) rfl ?_)
          by_cases h64 : wrongG gs [b, a] ≠ 0
          · first
              | (refine op_want rfl rfl ?_
                 first | refine op_v (v_cmpt rfl rfl rfl (by first | omega | (simp; done) | (simp; omega))) rfl ?_ | refine op_v (v_cmpf rfl rfl rfl (by first | omega | (simp; done) | (simp; omega))) rfl ?_ | refine op_v (v_cmp rfl rfl rfl) rfl ?_)
              | (refine op_skip rfl rfl (by simp [undef]) rfl ?_)
            first | refine op_v (v_pickt rfl rfl) rfl ?_ | refine op_v (v_pickf rfl rfl) rfl ?_ | refine op_v (v_pickb rfl rfl rfl) rfl ?_
            refine ops_nil ?_
            refine post_next ?_
            refine code_cond_t rfl ?_
            refine code_seq ?_
            refine code_region ?_
            refine op_call pl30 rfl rfl ((awake8_does _)) Parts.none ?_
            rintro v66 I66 _ hI66 ⟨rfl, rfl⟩
            refine op_v (v_assign rfl) rfl ?_
            refine ops_nil ?_
            refine post_next ?_
            refine code_ret ?_
            refine post_ret_then ?_
            refine post_ret (rs := [.tmp 8]) rfl (List.Perm.refl _) (.cons (.tmp rfl) .nil) (List.nil_sublist _) ?_
            exact ⟨rfl, rfl⟩
          · have e1 : wrongG gs [a, b] = 0 := by omega
            have e2 : wrongG gs [b, c] = 0 := by omega
            have e3 : wrongG gs [a, c] = 0 := by omega
            have e4 : wrongG gs [b, a] = 0 := by omega
            rw [if_pos e1, if_pos e2, if_pos e3, if_pos e4, stT_neg gs a b]
            obtain ⟨hA, hB⟩ := wrong2 e1
            have hC := (wrong2 e2).2
            have hvals := stT_vals gs a b
            have hzero := stT_zero hA hB
            have hself : a = b → stT gs a b = 0 := fun e => by rw [e, stT_self]
            first
              | (refine op_want rfl rfl ?_
                 first | refine op_v (v_cmpt rfl rfl rfl (by first | omega | (simp; done) | (simp; omega))) rfl ?_ | refine op_v (v_cmpf rfl rfl rfl (by first | omega | (simp; done) | (simp; omega))) rfl ?_ | refine op_v (v_cmp rfl rfl rfl) rfl ?_)
              | (refine op_skip rfl rfl (by simp [undef]) rfl ?_)
            first | refine op_v (v_pickt rfl rfl) rfl ?_ | refine op_v (v_pickf rfl rfl) rfl ?_ | refine op_v (v_pickb rfl rfl rfl) rfl ?_
            refine ops_nil ?_
            refine post_next ?_
            refine code_cond_f rfl ?_
            refine code_skip ?_
            refine post_next ?_
            refine code_seq ?_
            refine code_seq ?_
            refine code_region ?_
            by_cases hx2 : stT gs a b = 2
            · rw [hx2, show ngS 2 = 2 from rfl]
              have hne : ¬ a = b := fun e => by rw [hself e] at hx2; omega
              refine op_v (v_move rfl) rfl ?_
              first | refine op_v (v_cmpt rfl rfl rfl (by first | omega | (simp; done) | (simp; omega))) rfl ?_ | refine op_v (v_cmpf rfl rfl rfl (by first | omega | (simp; done) | (simp; omega))) rfl ?_ | refine op_v (v_cmp rfl rfl rfl) rfl ?_
              refine op_v (v_move rfl) rfl ?_
              first | refine op_v (v_cmpt rfl rfl rfl (by first | omega | (simp; done) | (simp; omega))) rfl ?_ | refine op_v (v_cmpf rfl rfl rfl (by first | omega | (simp; done) | (simp; omega))) rfl ?_ | refine op_v (v_cmp rfl rfl rfl) rfl ?_
              refine op_v (v_eqb Try.underlying4 rfl rfl rfl) rfl ?_
              refine op_v (v_move rfl) rfl ?_
              first
                | (refine op_want rfl rfl ?_
                   refine op_v (v_move rfl) rfl ?_)
                | (refine op_skip rfl rfl (by simp [undef]) rfl ?_)
              first
                | (refine op_want rfl rfl ?_
                   first | refine op_v (v_cmpt rfl rfl rfl (by first | omega | (simp; done) | (simp; omega))) rfl ?_ | refine op_v (v_cmpf rfl rfl rfl (by first | omega | (simp; done) | (simp; omega))) rfl ?_ | refine op_v (v_cmp rfl rfl rfl) rfl ?_)
                | (refine op_skip rfl rfl (by simp [undef]) rfl ?_)
              first
                | (refine op_want rfl rfl ?_
                   refine op_v (v_move rfl) rfl ?_)
                | (refine op_skip rfl rfl (by simp [undef]) rfl ?_)
              first
                | (refine op_want rfl rfl ?_
                   refine op_v (v_move rfl) rfl ?_)
                | (refine op_skip rfl rfl (by simp [undef]) rfl ?_)
              first
                | (refine op_want rfl rfl ?_
                   refine op_v (v_move rfl) rfl ?_)
                | (refine op_skip rfl rfl (by simp [undef]) rfl ?_)
              first
                | (refine op_want rfl rfl ?_
                   refine op_v (v_neg rfl) rfl ?_)
                | (refine op_skip rfl rfl (by simp [undef]) rfl ?_)
              first
                | (refine op_want rfl rfl ?_
                   first | refine op_v (v_cmpt rfl rfl rfl (by first | omega | (simp; done) | (simp; omega))) rfl ?_ | refine op_v (v_cmpf rfl rfl rfl (by first | omega | (simp; done) | (simp; omega))) rfl ?_ | refine op_v (v_cmp rfl rfl rfl) rfl ?_)
                | (refine op_skip rfl rfl (by simp [undef]) rfl ?_)
              first
                | (refine op_want rfl rfl ?_
                   first | refine op_v (v_pickt rfl rfl) rfl ?_ | refine op_v (v_pickf rfl rfl) rfl ?_ | refine op_v (v_pickb rfl rfl rfl) rfl ?_)
                | (refine op_skip rfl rfl (by simp [undef]) rfl ?_)
              first | refine op_v (v_pickt rfl rfl) rfl ?_ | refine op_v (v_pickf rfl rfl) rfl ?_ | refine op_v (v_pickb rfl rfl rfl) rfl ?_
              refine op_v (v_move rfl) rfl ?_
              first
                | (refine op_want rfl rfl ?_
                   refine op_v (v_move rfl) rfl ?_)
                | (refine op_skip rfl rfl (by simp [undef]) rfl ?_)
              first
                | (refine op_want rfl rfl ?_
                   first | refine op_v (v_cmpt rfl rfl rfl (by first | omega | (simp; done) | (simp; omega))) rfl ?_ | refine op_v (v_cmpf rfl rfl rfl (by first | omega | (simp; done) | (simp; omega))) rfl ?_ | refine op_v (v_cmp rfl rfl rfl) rfl ?_)
                | (refine op_skip rfl rfl (by simp [undef]) rfl ?_)
              first
                | (refine op_want rfl rfl ?_
                   refine op_v (v_load ty25 rfl (by repeat (first | exact Has.here | apply Has.there)) rfl) rfl ?_)
                | (refine op_skip rfl rfl (by simp [undef]) rfl ?_)
              first
                | (refine op_want rfl rfl ?_
                   refine op_v (v_load ty25 rfl (by repeat (first | exact Has.here | apply Has.there)) rfl) rfl ?_)
                | (refine op_skip rfl rfl (by simp [undef]) rfl ?_)
              first
                | (refine op_want rfl rfl ?_
                   refine op_call pl39 rfl rfl ((TSame_does (hva.mono (by repeat (first | exact Imm.le_refl _ | assumption | refine Imm.le_trans ?_ (by assumption)))) (hvb.mono (by repeat (first | exact Imm.le_refl _ | assumption | refine Imm.le_trans ?_ (by assumption)))) (by omega) (by omega))) Parts.none ?_
                   rintro v87 I87 _ hI87 ⟨rfl, rfl⟩
                   rw [show decide (a = b) = false by simp [hne]])
                | (refine op_skip rfl rfl (by simp [undef]) rfl ?_)
              first
                | (refine op_want rfl rfl ?_
                   refine op_v (v_eqb Try.underlying4 rfl rfl rfl) rfl ?_)
                | (refine op_skip rfl rfl (by simp [undef]) rfl ?_)
              first | refine op_v (v_pickt rfl rfl) rfl ?_ | refine op_v (v_pickf rfl rfl) rfl ?_ | refine op_v (v_pickb rfl rfl rfl) rfl ?_
              refine ops_nil ?_
              refine post_next ?_
              refine code_cond_f rfl ?_
              refine code_skip ?_
              refine post_next ?_
              refine code_seq ?_
              refine code_seq ?_
              refine code_draw (.fl 0 (.fl 3 (.ef 1 (.fl 2 (.ef 4 (.fl 5 (.fl 6 (.fl 7 (.fl 8 (.fl 9 (.fl 10 (.fl 11 .done)))))))))))) (fun _ => _) mixed (by kernel_rfl) (by kernel_rfl) (fun _ => (List.Sublist.refl _)) ?_
              refine e_float rfl rfl (fun hs_ => PF.mk rfl (v_load ty25 rfl (by repeat (first | exact Has.here | apply Has.there)) rfl) hs_) (by repeat (first | exact Imm.le_refl _ | assumption | refine Imm.le_trans ?_ (by assumption))) (by intro x hx; first | exact hx | exact List.mem_cons_of_mem _ hx | exact List.mem_append_right _ hx | (simp only [List.mem_cons, List.not_mem_nil, or_false] at hx; repeat' (first | (subst hx; simp [cellsL]; done) | rcases hx with hx | hx)) | simp_all) ?_
              refine e_float rfl rfl (fun hs_ => PF.mk rfl (v_load ty25 rfl (by repeat (first | exact Has.here | apply Has.there)) rfl) hs_) (by repeat (first | exact Imm.le_refl _ | assumption | refine Imm.le_trans ?_ (by assumption))) (by intro x hx; first | exact hx | exact List.mem_cons_of_mem _ hx | exact List.mem_append_right _ hx | (simp only [List.mem_cons, List.not_mem_nil, or_false] at hx; repeat' (first | (subst hx; simp [cellsL]; done) | rcases hx with hx | hx)) | simp_all) ?_
              refine e_eff rfl (by intro cs b hc; cases hc) (by intro c hc; cases hc) ?_
              refine op_call pl40 rfl rfl ((TVars_does (hva.mono (by repeat (first | exact Imm.le_refl _ | assumption | refine Imm.le_trans ?_ (by assumption)))) (by omega))) Parts.none ?_
              rintro v91 I91 _ hI91 ⟨hv91, rfl⟩
              obtain ⟨va91, vc91, rfl⟩ := hv91.shape
              have hq91 := varsP_len (partsT 1 a)
              rw [partsT_length] at hq91
              have hq94 := varsP_len (partsT 1 b)
              rw [partsT_length] at hq94
              refine ops_nil ?_
              refine e_next rfl (side_all (by repeat (first | exact Imm.le_refl _ | assumption | refine Imm.le_trans ?_ (by assumption))) (fun _ => (by intro x hx; first | exact hx | exact List.mem_cons_of_mem _ hx | exact List.mem_append_right _ hx | (simp only [List.mem_cons, List.not_mem_nil, or_false] at hx; repeat' (first | (subst hx; simp [cellsL]; done) | rcases hx with hx | hx)) | simp_all))) ?_
              refine e_float rfl rfl (fun hs_ => PF.mk rfl (v_len Try.underlying42 rfl) hs_) (by repeat (first | exact Imm.le_refl _ | assumption | refine Imm.le_trans ?_ (by assumption))) (by intro x hx; first | exact hx | exact List.mem_cons_of_mem _ hx | exact List.mem_append_right _ hx | (simp only [List.mem_cons, List.not_mem_nil, or_false] at hx; repeat' (first | (subst hx; simp [cellsL]; done) | rcases hx with hx | hx)) | simp_all) ?_
              refine e_eff rfl (by intro cs b hc; cases hc) (by intro c hc; cases hc) ?_
              refine op_call pl40 rfl rfl ((TVars_does (hvb.mono (by repeat (first | exact Imm.le_refl _ | assumption | refine Imm.le_trans ?_ (by assumption)))) (by omega))) Parts.none ?_
              rintro v94 I94 _ hI94 ⟨hv94, rfl⟩
              obtain ⟨va94, vc94, rfl⟩ := hv94.shape
              refine ops_nil ?_
              refine e_next rfl (side_all (by repeat (first | exact Imm.le_refl _ | assumption | refine Imm.le_trans ?_ (by assumption))) (fun _ => (by intro x hx; first | exact hx | exact List.mem_cons_of_mem _ hx | exact List.mem_append_right _ hx | (simp only [List.mem_cons, List.not_mem_nil, or_false] at hx; repeat' (first | (subst hx; simp [cellsL]; done) | rcases hx with hx | hx)) | simp_all))) ?_
              refine e_float rfl rfl (fun hs_ => PF.mk rfl (v_len Try.underlying42 rfl) hs_) (by repeat (first | exact Imm.le_refl _ | assumption | refine Imm.le_trans ?_ (by assumption))) (by intro x hx; first | exact hx | exact List.mem_cons_of_mem _ hx | exact List.mem_append_right _ hx | (simp only [List.mem_cons, List.not_mem_nil, or_false] at hx; repeat' (first | (subst hx; simp [cellsL]; done) | rcases hx with hx | hx)) | simp_all) ?_
              first | refine e_float rfl rfl (fun hs_ => PF.mk rfl (v_addb rfl rfl rfl (by omega)) hs_) (by repeat (first | exact Imm.le_refl _ | assumption | refine Imm.le_trans ?_ (by assumption))) (by intro x hx; first | exact hx | exact List.mem_cons_of_mem _ hx | exact List.mem_append_right _ hx | (simp only [List.mem_cons, List.not_mem_nil, or_false] at hx; repeat' (first | (subst hx; simp [cellsL]; done) | rcases hx with hx | hx)) | simp_all) ?_ | refine e_float rfl rfl (fun hs_ => PF.mk rfl (v_add rfl rfl) hs_) (by repeat (first | exact Imm.le_refl _ | assumption | refine Imm.le_trans ?_ (by assumption))) (by intro x hx; first | exact hx | exact List.mem_cons_of_mem _ hx | exact List.mem_append_right _ hx | (simp only [List.mem_cons, List.not_mem_nil, or_false] at hx; repeat' (first | (subst hx; simp [cellsL]; done) | rcases hx with hx | hx)) | simp_all) ?_
              have hz : ¬ (varsP (partsT 1 a)).length + (varsP (partsT 1 b)).length = 0 := fun hz => stT_ground a.size a b (Nat.le_refl _) hA hB (vars_ground (by omega)) (vars_ground (by omega)) hx2
              first | refine e_float rfl rfl (fun hs_ => PF.mk rfl (v_cmpt rfl rfl rfl (by first | omega | (simp; done) | (simp; omega))) hs_) (by repeat (first | exact Imm.le_refl _ | assumption | refine Imm.le_trans ?_ (by assumption))) (by intro x hx; first | exact hx | exact List.mem_cons_of_mem _ hx | exact List.mem_append_right _ hx | (simp only [List.mem_cons, List.not_mem_nil, or_false] at hx; repeat' (first | (subst hx; simp [cellsL]; done) | rcases hx with hx | hx)) | simp_all) ?_ | refine e_float rfl rfl (fun hs_ => PF.mk rfl (v_cmpf rfl rfl rfl (by first | omega | (simp; done) | (simp; omega))) hs_) (by repeat (first | exact Imm.le_refl _ | assumption | refine Imm.le_trans ?_ (by assumption))) (by intro x hx; first | exact hx | exact List.mem_cons_of_mem _ hx | exact List.mem_append_right _ hx | (simp only [List.mem_cons, List.not_mem_nil, or_false] at hx; repeat' (first | (subst hx; simp [cellsL]; done) | rcases hx with hx | hx)) | simp_all) ?_ | refine e_float rfl rfl (fun hs_ => PF.mk rfl (v_cmp rfl rfl rfl) hs_) (by repeat (first | exact Imm.le_refl _ | assumption | refine Imm.le_trans ?_ (by assumption))) (by intro x hx; first | exact hx | exact List.mem_cons_of_mem _ hx | exact List.mem_append_right _ hx | (simp only [List.mem_cons, List.not_mem_nil, or_false] at hx; repeat' (first | (subst hx; simp [cellsL]; done) | rcases hx with hx | hx)) | simp_all) ?_
              refine e_float rfl rfl (fun hs_ => PF.mk rfl (v_move rfl) hs_) (by repeat (first | exact Imm.le_refl _ | assumption | refine Imm.le_trans ?_ (by assumption))) (by intro x hx; first | exact hx | exact List.mem_cons_of_mem _ hx | exact List.mem_append_right _ hx | (simp only [List.mem_cons, List.not_mem_nil, or_false] at hx; repeat' (first | (subst hx; simp [cellsL]; done) | rcases hx with hx | hx)) | simp_all) ?_
              first | refine e_float rfl rfl (fun hs_ => PF.mkg rfl rfl rfl (v_move rfl) hs_) (by repeat (first | exact Imm.le_refl _ | assumption | refine Imm.le_trans ?_ (by assumption))) (by intro x hx; first | exact hx | exact List.mem_cons_of_mem _ hx | exact List.mem_append_right _ hx | (simp only [List.mem_cons, List.not_mem_nil, or_false] at hx; repeat' (first | (subst hx; simp [cellsL]; done) | rcases hx with hx | hx)) | simp_all) ?_ | refine e_float rfl rfl (fun hs_ => PF.mks rfl (by intro c hc; cases hc) rfl rfl (by simp [undef]) hs_) (by repeat (first | exact Imm.le_refl _ | assumption | refine Imm.le_trans ?_ (by assumption))) (by intro x hx; first | exact hx | exact List.mem_cons_of_mem _ hx | exact List.mem_append_right _ hx | (simp only [List.mem_cons, List.not_mem_nil, or_false] at hx; repeat' (first | (subst hx; simp [cellsL]; done) | rcases hx with hx | hx)) | simp_all) ?_
              first | refine e_float rfl rfl (fun hs_ => PF.mkg rfl rfl rfl (v_cmpt rfl rfl rfl (by first | omega | (simp; done) | (simp; omega))) hs_) (by repeat (first | exact Imm.le_refl _ | assumption | refine Imm.le_trans ?_ (by assumption))) (by intro x hx; first | exact hx | exact List.mem_cons_of_mem _ hx | exact List.mem_append_right _ hx | (simp only [List.mem_cons, List.not_mem_nil, or_false] at hx; repeat' (first | (subst hx; simp [cellsL]; done) | rcases hx with hx | hx)) | simp_all) ?_ | refine e_float rfl rfl (fun hs_ => PF.mkg rfl rfl rfl (v_cmpf rfl rfl rfl (by first | omega | (simp; done) | (simp; omega))) hs_) (by repeat (first | exact Imm.le_refl _ | assumption | refine Imm.le_trans ?_ (by assumption))) (by intro x hx; first | exact hx | exact List.mem_cons_of_mem _ hx | exact List.mem_append_right _ hx | (simp only [List.mem_cons, List.not_mem_nil, or_false] at hx; repeat' (first | (subst hx; simp [cellsL]; done) | rcases hx with hx | hx)) | simp_all) ?_ | refine e_float rfl rfl (fun hs_ => PF.mkg rfl rfl rfl (v_cmp rfl rfl rfl) hs_) (by repeat (first | exact Imm.le_refl _ | assumption | refine Imm.le_trans ?_ (by assumption))) (by intro x hx; first | exact hx | exact List.mem_cons_of_mem _ hx | exact List.mem_append_right _ hx | (simp only [List.mem_cons, List.not_mem_nil, or_false] at hx; repeat' (first | (subst hx; simp [cellsL]; done) | rcases hx with hx | hx)) | simp_all) ?_ | refine e_float rfl rfl (fun hs_ => PF.mks rfl (by intro c hc; cases hc) rfl rfl (by simp [undef]) hs_) (by repeat (first | exact Imm.le_refl _ | assumption | refine Imm.le_trans ?_ (by assumption))) (by intro x hx; first | exact hx | exact List.mem_cons_of_mem _ hx | exact List.mem_append_right _ hx | (simp only [List.mem_cons, List.not_mem_nil, or_false] at hx; repeat' (first | (subst hx; simp [cellsL]; done) | rcases hx with hx | hx)) | simp_all) ?_
              first | refine e_float rfl rfl (fun hs_ => PF.mk rfl (v_pickt rfl rfl) hs_) (by repeat (first | exact Imm.le_refl _ | assumption | refine Imm.le_trans ?_ (by assumption))) (by intro x hx; first | exact hx | exact List.mem_cons_of_mem _ hx | exact List.mem_append_right _ hx | (simp only [List.mem_cons, List.not_mem_nil, or_false] at hx; repeat' (first | (subst hx; simp [cellsL]; done) | rcases hx with hx | hx)) | simp_all) ?_ | refine e_float rfl rfl (fun hs_ => PF.mk rfl (v_pickf rfl rfl) hs_) (by repeat (first | exact Imm.le_refl _ | assumption | refine Imm.le_trans ?_ (by assumption))) (by intro x hx; first | exact hx | exact List.mem_cons_of_mem _ hx | exact List.mem_append_right _ hx | (simp only [List.mem_cons, List.not_mem_nil, or_false] at hx; repeat' (first | (subst hx; simp [cellsL]; done) | rcases hx with hx | hx)) | simp_all) ?_ | refine e_float rfl rfl (fun hs_ => PF.mk rfl (v_pickb rfl rfl rfl) hs_) (by repeat (first | exact Imm.le_refl _ | assumption | refine Imm.le_trans ?_ (by assumption))) (by intro x hx; first | exact hx | exact List.mem_cons_of_mem _ hx | exact List.mem_append_right _ hx | (simp only [List.mem_cons, List.not_mem_nil, or_false] at hx; repeat' (first | (subst hx; simp [cellsL]; done) | rcases hx with hx | hx)) | simp_all) ?_
              refine e_done ?_
              refine post_next ?_
              refine code_cond_f rfl ?_
              refine code_skip ?_
              refine post_next ?_
              refine code_seq ?_
              refine code_region ?_
              refine op_call pl30 rfl rfl ((awake8_does _)) Parts.none ?_
              rintro v102 I102 _ hI102 ⟨rfl, rfl⟩
              refine op_v (v_move rfl) rfl ?_
              first
                | (refine op_want rfl rfl ?_
                   refine op_v (v_move rfl) rfl ?_)
                | (refine op_skip rfl rfl (by simp [undef]) rfl ?_)
              first
                | (refine op_want rfl rfl ?_
                   first | refine op_v (v_cmpt rfl rfl rfl (by first | omega | (simp; done) | (simp; omega))) rfl ?_ | refine op_v (v_cmpf rfl rfl rfl (by first | omega | (simp; done) | (simp; omega))) rfl ?_ | refine op_v (v_cmp rfl rfl rfl) rfl ?_)
                | (refine op_skip rfl rfl (by simp [undef]) rfl ?_)
              first
                | (refine op_want rfl rfl ?_
                   refine op_v (v_move rfl) rfl ?_)
                | (refine op_skip rfl rfl (by simp [undef]) rfl ?_)
              first
                | (refine op_want rfl rfl ?_
                   refine op_v (v_move rfl) rfl ?_)
                | (refine op_skip rfl rfl (by simp [undef]) rfl ?_)
              first
                | (refine op_want rfl rfl ?_
                   first | refine op_v (v_cmpt rfl rfl rfl (by first | omega | (simp; done) | (simp; omega))) rfl ?_ | refine op_v (v_cmpf rfl rfl rfl (by first | omega | (simp; done) | (simp; omega))) rfl ?_ | refine op_v (v_cmp rfl rfl rfl) rfl ?_)
                | (refine op_skip rfl rfl (by simp [undef]) rfl ?_)
              first
                | (refine op_want rfl rfl ?_
                   first | refine op_v (v_pickt rfl rfl) rfl ?_ | refine op_v (v_pickf rfl rfl) rfl ?_ | refine op_v (v_pickb rfl rfl rfl) rfl ?_)
                | (refine op_skip rfl rfl (by simp [undef]) rfl ?_)
              first
                | (refine op_want rfl rfl ?_
                   refine op_v (v_move rfl) rfl ?_)
                | (refine op_skip rfl rfl (by simp [undef]) rfl ?_)
              first
                | (refine op_want rfl rfl ?_
                   refine op_v (v_move rfl) rfl ?_)
                | (refine op_skip rfl rfl (by simp [undef]) rfl ?_)
              first
                | (refine op_want rfl rfl ?_
                   first | refine op_v (v_cmpt rfl rfl rfl (by first | omega | (simp; done) | (simp; omega))) rfl ?_ | refine op_v (v_cmpf rfl rfl rfl (by first | omega | (simp; done) | (simp; omega))) rfl ?_ | refine op_v (v_cmp rfl rfl rfl) rfl ?_)
                | (refine op_skip rfl rfl (by simp [undef]) rfl ?_)
              first
                | (refine op_want rfl rfl ?_
                   first | refine op_v (v_pickt rfl rfl) rfl ?_ | refine op_v (v_pickf rfl rfl) rfl ?_ | refine op_v (v_pickb rfl rfl rfl) rfl ?_)
                | (refine op_skip rfl rfl (by simp [undef]) rfl ?_)
              first | refine op_v (v_pickt rfl rfl) rfl ?_ | refine op_v (v_pickf rfl rfl) rfl ?_ | refine op_v (v_pickb rfl rfl rfl) rfl ?_
              refine op_v (v_assign rfl) rfl ?_
              refine ops_nil ?_
              refine post_next ?_
              refine code_ret ?_
              refine post_ret (rs := [.tmp 8]) rfl (List.Perm.refl _) (.cons (.tmp rfl) .nil) (List.nil_sublist _) ?_
              exact ⟨rfl, rfl⟩
            · refine op_v (v_move rfl) rfl ?_
              by_cases hx1 : stT gs a b = 1
              · rw [hx1, show ngS 1 = -1 from rfl]
                have hne : ¬ a = b := fun e => by rw [hself e] at hx1; omega
                first | refine op_v (v_cmpt rfl rfl rfl (by first | omega | (simp; done) | (simp; omega))) rfl ?_ | refine op_v (v_cmpf rfl rfl rfl (by first | omega | (simp; done) | (simp; omega))) rfl ?_ | refine op_v (v_cmp rfl rfl rfl) rfl ?_
                refine op_v (v_move rfl) rfl ?_
                first | refine op_v (v_cmpt rfl rfl rfl (by first | omega | (simp; done) | (simp; omega))) rfl ?_ | refine op_v (v_cmpf rfl rfl rfl (by first | omega | (simp; done) | (simp; omega))) rfl ?_ | refine op_v (v_cmp rfl rfl rfl) rfl ?_
                refine op_v (v_eqb Try.underlying4 rfl rfl rfl) rfl ?_
                refine op_v (v_move rfl) rfl ?_
                first
                  | (refine op_want rfl rfl ?_
                     refine op_v (v_move rfl) rfl ?_)
                  | (refine op_skip rfl rfl (by simp [undef]) rfl ?_)
                first
                  | (refine op_want rfl rfl ?_
                     first | refine op_v (v_cmpt rfl rfl rfl (by first | omega | (simp; done) | (simp; omega))) rfl ?_ | refine op_v (v_cmpf rfl rfl rfl (by first | omega | (simp; done) | (simp; omega))) rfl ?_ | refine op_v (v_cmp rfl rfl rfl) rfl ?_)
                  | (refine op_skip rfl rfl (by simp [undef]) rfl ?_)
                first
                  | (refine op_want rfl rfl ?_
                     refine op_v (v_move rfl) rfl ?_)
                  | (refine op_skip rfl rfl (by simp [undef]) rfl ?_)
                first
                  | (refine op_want rfl rfl ?_
                     refine op_v (v_move rfl) rfl ?_)
                  | (refine op_skip rfl rfl (by simp [undef]) rfl ?_)
                first
                  | (refine op_want rfl rfl ?_
                     refine op_v (v_move rfl) rfl ?_)
                  | (refine op_skip rfl rfl (by simp [undef]) rfl ?_)
                first
                  | (refine op_want rfl rfl ?_
                     refine op_v (v_negb (c := 1) rfl rfl (by omega)) rfl ?_)
                  | (refine op_skip rfl rfl (by simp [undef]) rfl ?_)
                first
                  | (refine op_want rfl rfl ?_
                     first | refine op_v (v_cmpt rfl rfl rfl (by first | omega | (simp; done) | (simp; omega))) rfl ?_ | refine op_v (v_cmpf rfl rfl rfl (by first | omega | (simp; done) | (simp; omega))) rfl ?_ | refine op_v (v_cmp rfl rfl rfl) rfl ?_)
                  | (refine op_skip rfl rfl (by simp [undef]) rfl ?_)
                first
                  | (refine op_want rfl rfl ?_
                     first | refine op_v (v_pickt rfl rfl) rfl ?_ | refine op_v (v_pickf rfl rfl) rfl ?_ | refine op_v (v_pickb rfl rfl rfl) rfl ?_)
                  | (refine op_skip rfl rfl (by simp [undef]) rfl ?_)
                first | refine op_v (v_pickt rfl rfl) rfl ?_ | refine op_v (v_pickf rfl rfl) rfl ?_ | refine op_v (v_pickb rfl rfl rfl) rfl ?_
                refine op_v (v_move rfl) rfl ?_
                first
                  | (refine op_want rfl rfl ?_
                     refine op_v (v_move rfl) rfl ?_)
                  | (refine op_skip rfl rfl (by simp [undef]) rfl ?_)
                first
                  | (refine op_want rfl rfl ?_
                     first | refine op_v (v_cmpt rfl rfl rfl (by first | omega | (simp; done) | (simp; omega))) rfl ?_ | refine op_v (v_cmpf rfl rfl rfl (by first | omega | (simp; done) | (simp; omega))) rfl ?_ | refine op_v (v_cmp rfl rfl rfl) rfl ?_)
                  | (refine op_skip rfl rfl (by simp [undef]) rfl ?_)
                first
                  | (refine op_want rfl rfl ?_
                     refine op_v (v_load ty25 rfl (by repeat (first | exact Has.here | apply Has.there)) rfl) rfl ?_)
                  | (refine op_skip rfl rfl (by simp [undef]) rfl ?_)
                first
                  | (refine op_want rfl rfl ?_
                     refine op_v (v_load ty25 rfl (by repeat (first | exact Has.here | apply Has.there)) rfl) rfl ?_)
                  | (refine op_skip rfl rfl (by simp [undef]) rfl ?_)
                first
                  | (refine op_want rfl rfl ?_
                     refine op_call pl39 rfl rfl ((TSame_does (hva.mono (by repeat (first | exact Imm.le_refl _ | assumption | refine Imm.le_trans ?_ (by assumption)))) (hvb.mono (by repeat (first | exact Imm.le_refl _ | assumption | refine Imm.le_trans ?_ (by assumption)))) (by omega) (by omega))) Parts.none ?_
                     rintro v87 I87 _ hI87 ⟨rfl, rfl⟩
                     rw [show decide (a = b) = false by simp [hne]])
                  | (refine op_skip rfl rfl (by simp [undef]) rfl ?_)
                first
                  | (refine op_want rfl rfl ?_
                     refine op_v (v_eqb Try.underlying4 rfl rfl rfl) rfl ?_)
                  | (refine op_skip rfl rfl (by simp [undef]) rfl ?_)
                first | refine op_v (v_pickt rfl rfl) rfl ?_ | refine op_v (v_pickf rfl rfl) rfl ?_ | refine op_v (v_pickb rfl rfl rfl) rfl ?_
                refine ops_nil ?_
                refine post_next ?_
                refine code_cond_f rfl ?_
                refine code_skip ?_
                refine post_next ?_
                refine code_seq ?_
                refine code_seq ?_
                refine code_draw (.fl 0 (.fl 3 (.ef 1 (.fl 2 (.ef 4 (.fl 5 (.fl 6 (.fl 7 (.fl 8 (.fl 9 (.fl 10 (.fl 11 .done)))))))))))) (fun _ => _) mixed (by kernel_rfl) (by kernel_rfl) (fun _ => (List.Sublist.refl _)) ?_
                refine e_float rfl rfl (fun hs_ => PF.mk rfl (v_load ty25 rfl (by repeat (first | exact Has.here | apply Has.there)) rfl) hs_) (by repeat (first | exact Imm.le_refl _ | assumption | refine Imm.le_trans ?_ (by assumption))) (by intro x hx; first | exact hx | exact List.mem_cons_of_mem _ hx | exact List.mem_append_right _ hx | (simp only [List.mem_cons, List.not_mem_nil, or_false] at hx; repeat' (first | (subst hx; simp [cellsL]; done) | rcases hx with hx | hx)) | simp_all) ?_
                refine e_float rfl rfl (fun hs_ => PF.mk rfl (v_load ty25 rfl (by repeat (first | exact Has.here | apply Has.there)) rfl) hs_) (by repeat (first | exact Imm.le_refl _ | assumption | refine Imm.le_trans ?_ (by assumption))) (by intro x hx; first | exact hx | exact List.mem_cons_of_mem _ hx | exact List.mem_append_right _ hx | (simp only [List.mem_cons, List.not_mem_nil, or_false] at hx; repeat' (first | (subst hx; simp [cellsL]; done) | rcases hx with hx | hx)) | simp_all) ?_
                refine e_eff rfl (by intro cs b hc; cases hc) (by intro c hc; cases hc) ?_
                refine op_call pl40 rfl rfl ((TVars_does (hva.mono (by repeat (first | exact Imm.le_refl _ | assumption | refine Imm.le_trans ?_ (by assumption)))) (by omega))) Parts.none ?_
                rintro v91 I91 _ hI91 ⟨hv91, rfl⟩
                obtain ⟨va91, vc91, rfl⟩ := hv91.shape
                have hq91 := varsP_len (partsT 1 a)
                rw [partsT_length] at hq91
                have hq94 := varsP_len (partsT 1 b)
                rw [partsT_length] at hq94
                refine ops_nil ?_
                refine e_next rfl (side_all (by repeat (first | exact Imm.le_refl _ | assumption | refine Imm.le_trans ?_ (by assumption))) (fun _ => (by intro x hx; first | exact hx | exact List.mem_cons_of_mem _ hx | exact List.mem_append_right _ hx | (simp only [List.mem_cons, List.not_mem_nil, or_false] at hx; repeat' (first | (subst hx; simp [cellsL]; done) | rcases hx with hx | hx)) | simp_all))) ?_
                refine e_float rfl rfl (fun hs_ => PF.mk rfl (v_len Try.underlying42 rfl) hs_) (by repeat (first | exact Imm.le_refl _ | assumption | refine Imm.le_trans ?_ (by assumption))) (by intro x hx; first | exact hx | exact List.mem_cons_of_mem _ hx | exact List.mem_append_right _ hx | (simp only [List.mem_cons, List.not_mem_nil, or_false] at hx; repeat' (first | (subst hx; simp [cellsL]; done) | rcases hx with hx | hx)) | simp_all) ?_
                refine e_eff rfl (by intro cs b hc; cases hc) (by intro c hc; cases hc) ?_
                refine op_call pl40 rfl rfl ((TVars_does (hvb.mono (by repeat (first | exact Imm.le_refl _ | assumption | refine Imm.le_trans ?_ (by assumption)))) (by omega))) Parts.none ?_
                rintro v94 I94 _ hI94 ⟨hv94, rfl⟩
                obtain ⟨va94, vc94, rfl⟩ := hv94.shape
                refine ops_nil ?_
                refine e_next rfl (side_all (by repeat (first | exact Imm.le_refl _ | assumption | refine Imm.le_trans ?_ (by assumption))) (fun _ => (by intro x hx; first | exact hx | exact List.mem_cons_of_mem _ hx | exact List.mem_append_right _ hx | (simp only [List.mem_cons, List.not_mem_nil, or_false] at hx; repeat' (first | (subst hx; simp [cellsL]; done) | rcases hx with hx | hx)) | simp_all))) ?_
                refine e_float rfl rfl (fun hs_ => PF.mk rfl (v_len Try.underlying42 rfl) hs_) (by repeat (first | exact Imm.le_refl _ | assumption | refine Imm.le_trans ?_ (by assumption))) (by intro x hx; first | exact hx | exact List.mem_cons_of_mem _ hx | exact List.mem_append_right _ hx | (simp only [List.mem_cons, List.not_mem_nil, or_false] at hx; repeat' (first | (subst hx; simp [cellsL]; done) | rcases hx with hx | hx)) | simp_all) ?_
                first | refine e_float rfl rfl (fun hs_ => PF.mk rfl (v_addb rfl rfl rfl (by omega)) hs_) (by repeat (first | exact Imm.le_refl _ | assumption | refine Imm.le_trans ?_ (by assumption))) (by intro x hx; first | exact hx | exact List.mem_cons_of_mem _ hx | exact List.mem_append_right _ hx | (simp only [List.mem_cons, List.not_mem_nil, or_false] at hx; repeat' (first | (subst hx; simp [cellsL]; done) | rcases hx with hx | hx)) | simp_all) ?_ | refine e_float rfl rfl (fun hs_ => PF.mk rfl (v_add rfl rfl) hs_) (by repeat (first | exact Imm.le_refl _ | assumption | refine Imm.le_trans ?_ (by assumption))) (by intro x hx; first | exact hx | exact List.mem_cons_of_mem _ hx | exact List.mem_append_right _ hx | (simp only [List.mem_cons, List.not_mem_nil, or_false] at hx; repeat' (first | (subst hx; simp [cellsL]; done) | rcases hx with hx | hx)) | simp_all) ?_
                by_cases hz : (varsP (partsT 1 a)).length + (varsP (partsT 1 b)).length = 0
                · have hgr := stT_ground a.size a b (Nat.le_refl _) hA hB (vars_ground (by omega)) (vars_ground (by omega))
                  first | refine e_float rfl rfl (fun hs_ => PF.mk rfl (v_cmpt rfl rfl rfl (by first | omega | (simp; done) | (simp; omega))) hs_) (by repeat (first | exact Imm.le_refl _ | assumption | refine Imm.le_trans ?_ (by assumption))) (by intro x hx; first | exact hx | exact List.mem_cons_of_mem _ hx | exact List.mem_append_right _ hx | (simp only [List.mem_cons, List.not_mem_nil, or_false] at hx; repeat' (first | (subst hx; simp [cellsL]; done) | rcases hx with hx | hx)) | simp_all) ?_ | refine e_float rfl rfl (fun hs_ => PF.mk rfl (v_cmpf rfl rfl rfl (by first | omega | (simp; done) | (simp; omega))) hs_) (by repeat (first | exact Imm.le_refl _ | assumption | refine Imm.le_trans ?_ (by assumption))) (by intro x hx; first | exact hx | exact List.mem_cons_of_mem _ hx | exact List.mem_append_right _ hx | (simp only [List.mem_cons, List.not_mem_nil, or_false] at hx; repeat' (first | (subst hx; simp [cellsL]; done) | rcases hx with hx | hx)) | simp_all) ?_ | refine e_float rfl rfl (fun hs_ => PF.mk rfl (v_cmp rfl rfl rfl) hs_) (by repeat (first | exact Imm.le_refl _ | assumption | refine Imm.le_trans ?_ (by assumption))) (by intro x hx; first | exact hx | exact List.mem_cons_of_mem _ hx | exact List.mem_append_right _ hx | (simp only [List.mem_cons, List.not_mem_nil, or_false] at hx; repeat' (first | (subst hx; simp [cellsL]; done) | rcases hx with hx | hx)) | simp_all) ?_
                  refine e_float rfl rfl (fun hs_ => PF.mk rfl (v_move rfl) hs_) (by repeat (first | exact Imm.le_refl _ | assumption | refine Imm.le_trans ?_ (by assumption))) (by intro x hx; first | exact hx | exact List.mem_cons_of_mem _ hx | exact List.mem_append_right _ hx | (simp only [List.mem_cons, List.not_mem_nil, or_false] at hx; repeat' (first | (subst hx; simp [cellsL]; done) | rcases hx with hx | hx)) | simp_all) ?_
                  first | refine e_float rfl rfl (fun hs_ => PF.mkg rfl rfl rfl (v_move rfl) hs_) (by repeat (first | exact Imm.le_refl _ | assumption | refine Imm.le_trans ?_ (by assumption))) (by intro x hx; first | exact hx | exact List.mem_cons_of_mem _ hx | exact List.mem_append_right _ hx | (simp only [List.mem_cons, List.not_mem_nil, or_false] at hx; repeat' (first | (subst hx; simp [cellsL]; done) | rcases hx with hx | hx)) | simp_all) ?_ | refine e_float rfl rfl (fun hs_ => PF.mks rfl (by intro c hc; cases hc) rfl rfl (by simp [undef]) hs_) (by repeat (first | exact Imm.le_refl _ | assumption | refine Imm.le_trans ?_ (by assumption))) (by intro x hx; first | exact hx | exact List.mem_cons_of_mem _ hx | exact List.mem_append_right _ hx | (simp only [List.mem_cons, List.not_mem_nil, or_false] at hx; repeat' (first | (subst hx; simp [cellsL]; done) | rcases hx with hx | hx)) | simp_all) ?_
                  first | refine e_float rfl rfl (fun hs_ => PF.mkg rfl rfl rfl (v_cmpt rfl rfl rfl (by first | omega | (simp; done) | (simp; omega))) hs_) (by repeat (first | exact Imm.le_refl _ | assumption | refine Imm.le_trans ?_ (by assumption))) (by intro x hx; first | exact hx | exact List.mem_cons_of_mem _ hx | exact List.mem_append_right _ hx | (simp only [List.mem_cons, List.not_mem_nil, or_false] at hx; repeat' (first | (subst hx; simp [cellsL]; done) | rcases hx with hx | hx)) | simp_all) ?_ | refine e_float rfl rfl (fun hs_ => PF.mkg rfl rfl rfl (v_cmpf rfl rfl rfl (by first | omega | (simp; done) | (simp; omega))) hs_) (by repeat (first | exact Imm.le_refl _ | assumption | refine Imm.le_trans ?_ (by assumption))) (by intro x hx; first | exact hx | exact List.mem_cons_of_mem _ hx | exact List.mem_append_right _ hx | (simp only [List.mem_cons, List.not_mem_nil, or_false] at hx; repeat' (first | (subst hx; simp [cellsL]; done) | rcases hx with hx | hx)) | simp_all) ?_ | refine e_float rfl rfl (fun hs_ => PF.mkg rfl rfl rfl (v_cmp rfl rfl rfl) hs_) (by repeat (first | exact Imm.le_refl _ | assumption | refine Imm.le_trans ?_ (by assumption))) (by intro x hx; first | exact hx | exact List.mem_cons_of_mem _ hx | exact List.mem_append_right _ hx | (simp only [List.mem_cons, List.not_mem_nil, or_false] at hx; repeat' (first | (subst hx; simp [cellsL]; done) | rcases hx with hx | hx)) | simp_all) ?_ | refine e_float rfl rfl (fun hs_ => PF.mks rfl (by intro c hc; cases hc) rfl rfl (by simp [undef]) hs_) (by repeat (first | exact Imm.le_refl _ | assumption | refine Imm.le_trans ?_ (by assumption))) (by intro x hx; first | exact hx | exact List.mem_cons_of_mem _ hx | exact List.mem_append_right _ hx | (simp only [List.mem_cons, List.not_mem_nil, or_false] at hx; repeat' (first | (subst hx; simp [cellsL]; done) | rcases hx with hx | hx)) | simp_all) ?_
                  first | refine e_float rfl rfl (fun hs_ => PF.mk rfl (v_pickt rfl rfl) hs_) (by repeat (first | exact Imm.le_refl _ | assumption | refine Imm.le_trans ?_ (by assumption))) (by intro x hx; first | exact hx | exact List.mem_cons_of_mem _ hx | exact List.mem_append_right _ hx | (simp only [List.mem_cons, List.not_mem_nil, or_false] at hx; repeat' (first | (subst hx; simp [cellsL]; done) | rcases hx with hx | hx)) | simp_all) ?_ | refine e_float rfl rfl (fun hs_ => PF.mk rfl (v_pickf rfl rfl) hs_) (by repeat (first | exact Imm.le_refl _ | assumption | refine Imm.le_trans ?_ (by assumption))) (by intro x hx; first | exact hx | exact List.mem_cons_of_mem _ hx | exact List.mem_append_right _ hx | (simp only [List.mem_cons, List.not_mem_nil, or_false] at hx; repeat' (first | (subst hx; simp [cellsL]; done) | rcases hx with hx | hx)) | simp_all) ?_ | refine e_float rfl rfl (fun hs_ => PF.mk rfl (v_pickb rfl rfl rfl) hs_) (by repeat (first | exact Imm.le_refl _ | assumption | refine Imm.le_trans ?_ (by assumption))) (by intro x hx; first | exact hx | exact List.mem_cons_of_mem _ hx | exact List.mem_append_right _ hx | (simp only [List.mem_cons, List.not_mem_nil, or_false] at hx; repeat' (first | (subst hx; simp [cellsL]; done) | rcases hx with hx | hx)) | simp_all) ?_
                  refine e_done ?_
                  refine post_next ?_
                  refine code_cond_f rfl ?_
                  refine code_skip ?_
                  refine post_next ?_
                  refine code_seq ?_
                  refine code_region ?_
                  refine op_call pl30 rfl rfl ((awake8_does _)) Parts.none ?_
                  rintro v102 I102 _ hI102 ⟨rfl, rfl⟩
                  refine op_v (v_move rfl) rfl ?_
                  first
                    | (refine op_want rfl rfl ?_
                       refine op_v (v_move rfl) rfl ?_)
                    | (refine op_skip rfl rfl (by simp [undef]) rfl ?_)
                  first
                    | (refine op_want rfl rfl ?_
                       first | refine op_v (v_cmpt rfl rfl rfl (by first | omega | (simp; done) | (simp; omega))) rfl ?_ | refine op_v (v_cmpf rfl rfl rfl (by first | omega | (simp; done) | (simp; omega))) rfl ?_ | refine op_v (v_cmp rfl rfl rfl) rfl ?_)
                    | (refine op_skip rfl rfl (by simp [undef]) rfl ?_)
                  first
                    | (refine op_want rfl rfl ?_
                       refine op_v (v_move rfl) rfl ?_)
                    | (refine op_skip rfl rfl (by simp [undef]) rfl ?_)
                  first
                    | (refine op_want rfl rfl ?_
                       refine op_v (v_move rfl) rfl ?_)
                    | (refine op_skip rfl rfl (by simp [undef]) rfl ?_)
                  by_cases h108 : stT gs b c ≠ 1
                  · first
                      | (refine op_want rfl rfl ?_
                         first | refine op_v (v_cmpt rfl rfl rfl (by first | omega | (simp; done) | (simp; omega))) rfl ?_ | refine op_v (v_cmpf rfl rfl rfl (by first | omega | (simp; done) | (simp; omega))) rfl ?_ | refine op_v (v_cmp rfl rfl rfl) rfl ?_)
                      | (refine op_skip rfl rfl (by simp [undef]) rfl ?_)
                    first
                      | (refine op_want rfl rfl ?_
                         first | refine op_v (v_pickt rfl rfl) rfl ?_ | refine op_v (v_pickf rfl rfl) rfl ?_ | refine op_v (v_pickb rfl rfl rfl) rfl ?_)
                      | (refine op_skip rfl rfl (by simp [undef]) rfl ?_)
                    first
                      | (refine op_want rfl rfl ?_
                         refine op_v (v_move rfl) rfl ?_)
                      | (refine op_skip rfl rfl (by simp [undef]) rfl ?_)
                    first
                      | (refine op_want rfl rfl ?_
                         refine op_v (v_move rfl) rfl ?_)
                      | (refine op_skip rfl rfl (by simp [undef]) rfl ?_)
                    first
                      | (refine op_want rfl rfl ?_
                         first | refine op_v (v_cmpt rfl rfl rfl (by first | omega | (simp; done) | (simp; omega))) rfl ?_ | refine op_v (v_cmpf rfl rfl rfl (by first | omega | (simp; done) | (simp; omega))) rfl ?_ | refine op_v (v_cmp rfl rfl rfl) rfl ?_)
                      | (refine op_skip rfl rfl (by simp [undef]) rfl ?_)
                    first
                      | (refine op_want rfl rfl ?_
                         first | refine op_v (v_pickt rfl rfl) rfl ?_ | refine op_v (v_pickf rfl rfl) rfl ?_ | refine op_v (v_pickb rfl rfl rfl) rfl ?_)
                      | (refine op_skip rfl rfl (by simp [undef]) rfl ?_)
                    first | refine op_v (v_pickt rfl rfl) rfl ?_ | refine op_v (v_pickf rfl rfl) rfl ?_ | refine op_v (v_pickb rfl rfl rfl) rfl ?_
                    refine op_v (v_assign rfl) rfl ?_
                    refine ops_nil ?_
                    refine post_next ?_
                    refine code_ret ?_
                    refine post_ret (rs := [.tmp 8]) rfl (List.Perm.refl _) (.cons (.tmp rfl) .nil) (List.nil_sublist _) ?_
                    exact ⟨rfl, rfl⟩
                  · have h3 := stT_trans a.size a b c (Nat.le_refl _) hA hB hC hx1 (by omega)
                    rw [h3]
                    first
                      | (refine op_want rfl rfl ?_
                         first | refine op_v (v_cmpt rfl rfl rfl (by first | omega | (simp; done) | (simp; omega))) rfl ?_ | refine op_v (v_cmpf rfl rfl rfl (by first | omega | (simp; done) | (simp; omega))) rfl ?_ | refine op_v (v_cmp rfl rfl rfl) rfl ?_)
                      | (refine op_skip rfl rfl (by simp [undef]) rfl ?_)
                    first
                      | (refine op_want rfl rfl ?_
                         first | refine op_v (v_pickt rfl rfl) rfl ?_ | refine op_v (v_pickf rfl rfl) rfl ?_ | refine op_v (v_pickb rfl rfl rfl) rfl ?_)
                      | (refine op_skip rfl rfl (by simp [undef]) rfl ?_)
                    first
                      | (refine op_want rfl rfl ?_
                         refine op_v (v_move rfl) rfl ?_)
                      | (refine op_skip rfl rfl (by simp [undef]) rfl ?_)
                    first
                      | (refine op_want rfl rfl ?_
                         refine op_v (v_move rfl) rfl ?_)
                      | (refine op_skip rfl rfl (by simp [undef]) rfl ?_)
                    first
                      | (refine op_want rfl rfl ?_
                         first | refine op_v (v_cmpt rfl rfl rfl (by first | omega | (simp; done) | (simp; omega))) rfl ?_ | refine op_v (v_cmpf rfl rfl rfl (by first | omega | (simp; done) | (simp; omega))) rfl ?_ | refine op_v (v_cmp rfl rfl rfl) rfl ?_)
                      | (refine op_skip rfl rfl (by simp [undef]) rfl ?_)
                    first
                      | (refine op_want rfl rfl ?_
                         first | refine op_v (v_pickt rfl rfl) rfl ?_ | refine op_v (v_pickf rfl rfl) rfl ?_ | refine op_v (v_pickb rfl rfl rfl) rfl ?_)
                      | (refine op_skip rfl rfl (by simp [undef]) rfl ?_)
                    first | refine op_v (v_pickt rfl rfl) rfl ?_ | refine op_v (v_pickf rfl rfl) rfl ?_ | refine op_v (v_pickb rfl rfl rfl) rfl ?_
                    refine op_v (v_assign rfl) rfl ?_
                    refine ops_nil ?_
                    refine post_next ?_
                    refine code_ret ?_
                    refine post_ret (rs := [.tmp 8]) rfl (List.Perm.refl _) (.cons (.tmp rfl) .nil) (List.nil_sublist _) ?_
                    exact ⟨rfl, rfl⟩
                · first | refine e_float rfl rfl (fun hs_ => PF.mk rfl (v_cmpt rfl rfl rfl (by first | omega | (simp; done) | (simp; omega))) hs_) (by repeat (first | exact Imm.le_refl _ | assumption | refine Imm.le_trans ?_ (by assumption))) (by intro x hx; first | exact hx | exact List.mem_cons_of_mem _ hx | exact List.mem_append_right _ hx | (simp only [List.mem_cons, List.not_mem_nil, or_false] at hx; repeat' (first | (subst hx; simp [cellsL]; done) | rcases hx with hx | hx)) | simp_all) ?_ | refine e_float rfl rfl (fun hs_ => PF.mk rfl (v_cmpf rfl rfl rfl (by first | omega | (simp; done) | (simp; omega))) hs_) (by repeat (first | exact Imm.le_refl _ | assumption | refine Imm.le_trans ?_ (by assumption))) (by intro x hx; first | exact hx | exact List.mem_cons_of_mem _ hx | exact List.mem_append_right _ hx | (simp only [List.mem_cons, List.not_mem_nil, or_false] at hx; repeat' (first | (subst hx; simp [cellsL]; done) | rcases hx with hx | hx)) | simp_all) ?_ | refine e_float rfl rfl (fun hs_ => PF.mk rfl (v_cmp rfl rfl rfl) hs_) (by repeat (first | exact Imm.le_refl _ | assumption | refine Imm.le_trans ?_ (by assumption))) (by intro x hx; first | exact hx | exact List.mem_cons_of_mem _ hx | exact List.mem_append_right _ hx | (simp only [List.mem_cons, List.not_mem_nil, or_false] at hx; repeat' (first | (subst hx; simp [cellsL]; done) | rcases hx with hx | hx)) | simp_all) ?_
                  refine e_float rfl rfl (fun hs_ => PF.mk rfl (v_move rfl) hs_) (by repeat (first | exact Imm.le_refl _ | assumption | refine Imm.le_trans ?_ (by assumption))) (by intro x hx; first | exact hx | exact List.mem_cons_of_mem _ hx | exact List.mem_append_right _ hx | (simp only [List.mem_cons, List.not_mem_nil, or_false] at hx; repeat' (first | (subst hx; simp [cellsL]; done) | rcases hx with hx | hx)) | simp_all) ?_
                  first | refine e_float rfl rfl (fun hs_ => PF.mkg rfl rfl rfl (v_move rfl) hs_) (by repeat (first | exact Imm.le_refl _ | assumption | refine Imm.le_trans ?_ (by assumption))) (by intro x hx; first | exact hx | exact List.mem_cons_of_mem _ hx | exact List.mem_append_right _ hx | (simp only [List.mem_cons, List.not_mem_nil, or_false] at hx; repeat' (first | (subst hx; simp [cellsL]; done) | rcases hx with hx | hx)) | simp_all) ?_ | refine e_float rfl rfl (fun hs_ => PF.mks rfl (by intro c hc; cases hc) rfl rfl (by simp [undef]) hs_) (by repeat (first | exact Imm.le_refl _ | assumption | refine Imm.le_trans ?_ (by assumption))) (by intro x hx; first | exact hx | exact List.mem_cons_of_mem _ hx | exact List.mem_append_right _ hx | (simp only [List.mem_cons, List.not_mem_nil, or_false] at hx; repeat' (first | (subst hx; simp [cellsL]; done) | rcases hx with hx | hx)) | simp_all) ?_
                  first | refine e_float rfl rfl (fun hs_ => PF.mkg rfl rfl rfl (v_cmpt rfl rfl rfl (by first | omega | (simp; done) | (simp; omega))) hs_) (by repeat (first | exact Imm.le_refl _ | assumption | refine Imm.le_trans ?_ (by assumption))) (by intro x hx; first | exact hx | exact List.mem_cons_of_mem _ hx | exact List.mem_append_right _ hx | (simp only [List.mem_cons, List.not_mem_nil, or_false] at hx; repeat' (first | (subst hx; simp [cellsL]; done) | rcases hx with hx | hx)) | simp_all) ?_ | refine e_float rfl rfl (fun hs_ => PF.mkg rfl rfl rfl (v_cmpf rfl rfl rfl (by first | omega | (simp; done) | (simp; omega))) hs_) (by repeat (first | exact Imm.le_refl _ | assumption | refine Imm.le_trans ?_ (by assumption))) (by intro x hx; first | exact hx | exact List.mem_cons_of_mem _ hx | exact List.mem_append_right _ hx | (simp only [List.mem_cons, List.not_mem_nil, or_false] at hx; repeat' (first | (subst hx; simp [cellsL]; done) | rcases hx with hx | hx)) | simp_all) ?_ | refine e_float rfl rfl (fun hs_ => PF.mkg rfl rfl rfl (v_cmp rfl rfl rfl) hs_) (by repeat (first | exact Imm.le_refl _ | assumption | refine Imm.le_trans ?_ (by assumption))) (by intro x hx; first | exact hx | exact List.mem_cons_of_mem _ hx | exact List.mem_append_right _ hx | (simp only [List.mem_cons, List.not_mem_nil, or_false] at hx; repeat' (first | (subst hx; simp [cellsL]; done) | rcases hx with hx | hx)) | simp_all) ?_ | refine e_float rfl rfl (fun hs_ => PF.mks rfl (by intro c hc; cases hc) rfl rfl (by simp [undef]) hs_) (by repeat (first | exact Imm.le_refl _ | assumption | refine Imm.le_trans ?_ (by assumption))) (by intro x hx; first | exact hx | exact List.mem_cons_of_mem _ hx | exact List.mem_append_right _ hx | (simp only [List.mem_cons, List.not_mem_nil, or_false] at hx; repeat' (first | (subst hx; simp [cellsL]; done) | rcases hx with hx | hx)) | simp_all) ?_
                  first | refine e_float rfl rfl (fun hs_ => PF.mk rfl (v_pickt rfl rfl) hs_) (by repeat (first | exact Imm.le_refl _ | assumption | refine Imm.le_trans ?_ (by assumption))) (by intro x hx; first | exact hx | exact List.mem_cons_of_mem _ hx | exact List.mem_append_right _ hx | (simp only [List.mem_cons, List.not_mem_nil, or_false] at hx; repeat' (first | (subst hx; simp [cellsL]; done) | rcases hx with hx | hx)) | simp_all) ?_ | refine e_float rfl rfl (fun hs_ => PF.mk rfl (v_pickf rfl rfl) hs_) (by repeat (first | exact Imm.le_refl _ | assumption | refine Imm.le_trans ?_ (by assumption))) (by intro x hx; first | exact hx | exact List.mem_cons_of_mem _ hx | exact List.mem_append_right _ hx | (simp only [List.mem_cons, List.not_mem_nil, or_false] at hx; repeat' (first | (subst hx; simp [cellsL]; done) | rcases hx with hx | hx)) | simp_all) ?_ | refine e_float rfl rfl (fun hs_ => PF.mk rfl (v_pickb rfl rfl rfl) hs_) (by repeat (first | exact Imm.le_refl _ | assumption | refine Imm.le_trans ?_ (by assumption))) (by intro x hx; first | exact hx | exact List.mem_cons_of_mem _ hx | exact List.mem_append_right _ hx | (simp only [List.mem_cons, List.not_mem_nil, or_false] at hx; repeat' (first | (subst hx; simp [cellsL]; done) | rcases hx with hx | hx)) | simp_all) ?_
                  refine e_done ?_
                  refine post_next ?_
                  refine code_cond_f rfl ?_
                  refine code_skip ?_
                  refine post_next ?_
                  refine code_seq ?_
                  refine code_region ?_
                  refine op_call pl30 rfl rfl ((awake8_does _)) Parts.none ?_
                  rintro v102 I102 _ hI102 ⟨rfl, rfl⟩
                  refine op_v (v_move rfl) rfl ?_
                  first
                    | (refine op_want rfl rfl ?_
                       refine op_v (v_move rfl) rfl ?_)
                    | (refine op_skip rfl rfl (by simp [undef]) rfl ?_)
                  first
                    | (refine op_want rfl rfl ?_
                       first | refine op_v (v_cmpt rfl rfl rfl (by first | omega | (simp; done) | (simp; omega))) rfl ?_ | refine op_v (v_cmpf rfl rfl rfl (by first | omega | (simp; done) | (simp; omega))) rfl ?_ | refine op_v (v_cmp rfl rfl rfl) rfl ?_)
                    | (refine op_skip rfl rfl (by simp [undef]) rfl ?_)
                  first
                    | (refine op_want rfl rfl ?_
                       refine op_v (v_move rfl) rfl ?_)
                    | (refine op_skip rfl rfl (by simp [undef]) rfl ?_)
                  first
                    | (refine op_want rfl rfl ?_
                       refine op_v (v_move rfl) rfl ?_)
                    | (refine op_skip rfl rfl (by simp [undef]) rfl ?_)
                  by_cases h108 : stT gs b c ≠ 1
                  · first
                      | (refine op_want rfl rfl ?_
                         first | refine op_v (v_cmpt rfl rfl rfl (by first | omega | (simp; done) | (simp; omega))) rfl ?_ | refine op_v (v_cmpf rfl rfl rfl (by first | omega | (simp; done) | (simp; omega))) rfl ?_ | refine op_v (v_cmp rfl rfl rfl) rfl ?_)
                      | (refine op_skip rfl rfl (by simp [undef]) rfl ?_)
                    first
                      | (refine op_want rfl rfl ?_
                         first | refine op_v (v_pickt rfl rfl) rfl ?_ | refine op_v (v_pickf rfl rfl) rfl ?_ | refine op_v (v_pickb rfl rfl rfl) rfl ?_)
                      | (refine op_skip rfl rfl (by simp [undef]) rfl ?_)
                    first
                      | (refine op_want rfl rfl ?_
                         refine op_v (v_move rfl) rfl ?_)
                      | (refine op_skip rfl rfl (by simp [undef]) rfl ?_)
                    first
                      | (refine op_want rfl rfl ?_
                         refine op_v (v_move rfl) rfl ?_)
                      | (refine op_skip rfl rfl (by simp [undef]) rfl ?_)
                    first
                      | (refine op_want rfl rfl ?_
                         first | refine op_v (v_cmpt rfl rfl rfl (by first | omega | (simp; done) | (simp; omega))) rfl ?_ | refine op_v (v_cmpf rfl rfl rfl (by first | omega | (simp; done) | (simp; omega))) rfl ?_ | refine op_v (v_cmp rfl rfl rfl) rfl ?_)
                      | (refine op_skip rfl rfl (by simp [undef]) rfl ?_)
                    first
                      | (refine op_want rfl rfl ?_
                         first | refine op_v (v_pickt rfl rfl) rfl ?_ | refine op_v (v_pickf rfl rfl) rfl ?_ | refine op_v (v_pickb rfl rfl rfl) rfl ?_)
                      | (refine op_skip rfl rfl (by simp [undef]) rfl ?_)
                    first | refine op_v (v_pickt rfl rfl) rfl ?_ | refine op_v (v_pickf rfl rfl) rfl ?_ | refine op_v (v_pickb rfl rfl rfl) rfl ?_
                    refine op_v (v_assign rfl) rfl ?_
                    refine ops_nil ?_
                    refine post_next ?_
                    refine code_ret ?_
                    refine post_ret (rs := [.tmp 8]) rfl (List.Perm.refl _) (.cons (.tmp rfl) .nil) (List.nil_sublist _) ?_
                    exact ⟨rfl, rfl⟩
                  · have h3 := stT_trans a.size a b c (Nat.le_refl _) hA hB hC hx1 (by omega)
                    rw [h3]
                    first
                      | (refine op_want rfl rfl ?_
                         first | refine op_v (v_cmpt rfl rfl rfl (by first | omega | (simp; done) | (simp; omega))) rfl ?_ | refine op_v (v_cmpf rfl rfl rfl (by first | omega | (simp; done) | (simp; omega))) rfl ?_ | refine op_v (v_cmp rfl rfl rfl) rfl ?_)
                      | (refine op_skip rfl rfl (by simp [undef]) rfl ?_)
                    first
                      | (refine op_want rfl rfl ?_
                         first | refine op_v (v_pickt rfl rfl) rfl ?_ | refine op_v (v_pickf rfl rfl) rfl ?_ | refine op_v (v_pickb rfl rfl rfl) rfl ?_)
                      | (refine op_skip rfl rfl (by simp [undef]) rfl ?_)
                    first
                      | (refine op_want rfl rfl ?_
                         refine op_v (v_move rfl) rfl ?_)
                      | (refine op_skip rfl rfl (by simp [undef]) rfl ?_)
                    first
                      | (refine op_want rfl rfl ?_
                         refine op_v (v_move rfl) rfl ?_)
                      | (refine op_skip rfl rfl (by simp [undef]) rfl ?_)
                    first
                      | (refine op_want rfl rfl ?_
                         first | refine op_v (v_cmpt rfl rfl rfl (by first | omega | (simp; done) | (simp; omega))) rfl ?_ | refine op_v (v_cmpf rfl rfl rfl (by first | omega | (simp; done) | (simp; omega))) rfl ?_ | refine op_v (v_cmp rfl rfl rfl) rfl ?_)
                      | (refine op_skip rfl rfl (by simp [undef]) rfl ?_)
                    first
                      | (refine op_want rfl rfl ?_
                         first | refine op_v (v_pickt rfl rfl) rfl ?_ | refine op_v (v_pickf rfl rfl) rfl ?_ | refine op_v (v_pickb rfl rfl rfl) rfl ?_)
                      | (refine op_skip rfl rfl (by simp [undef]) rfl ?_)
                    first | refine op_v (v_pickt rfl rfl) rfl ?_ | refine op_v (v_pickf rfl rfl) rfl ?_ | refine op_v (v_pickb rfl rfl rfl) rfl ?_
                    refine op_v (v_assign rfl) rfl ?_
                    refine ops_nil ?_
                    refine post_next ?_
                    refine code_ret ?_
                    refine post_ret (rs := [.tmp 8]) rfl (List.Perm.refl _) (.cons (.tmp rfl) .nil) (List.nil_sublist _) ?_
                    exact ⟨rfl, rfl⟩
              · first | refine op_v (v_cmpt rfl rfl rfl (by first | omega | (simp; done) | (simp; omega))) rfl ?_ | refine op_v (v_cmpf rfl rfl rfl (by first | omega | (simp; done) | (simp; omega))) rfl ?_ | refine op_v (v_cmp rfl rfl rfl) rfl ?_
                by_cases hx0 : stT gs a b = 0
                · rw [hx0, show ngS 0 = 0 from rfl]
                  have heq : a = b := hzero hx0
                  refine op_v (v_move rfl) rfl ?_
                  first | refine op_v (v_cmpt rfl rfl rfl (by first | omega | (simp; done) | (simp; omega))) rfl ?_ | refine op_v (v_cmpf rfl rfl rfl (by first | omega | (simp; done) | (simp; omega))) rfl ?_ | refine op_v (v_cmp rfl rfl rfl) rfl ?_
                  refine op_v (v_eqb Try.underlying4 rfl rfl rfl) rfl ?_
                  refine op_v (v_move rfl) rfl ?_
                  first
                    | (refine op_want rfl rfl ?_
                       refine op_v (v_move rfl) rfl ?_)
                    | (refine op_skip rfl rfl (by simp [undef]) rfl ?_)
                  first
                    | (refine op_want rfl rfl ?_
                       first | refine op_v (v_cmpt rfl rfl rfl (by first | omega | (simp; done) | (simp; omega))) rfl ?_ | refine op_v (v_cmpf rfl rfl rfl (by first | omega | (simp; done) | (simp; omega))) rfl ?_ | refine op_v (v_cmp rfl rfl rfl) rfl ?_)
                    | (refine op_skip rfl rfl (by simp [undef]) rfl ?_)
                  first
                    | (refine op_want rfl rfl ?_
                       refine op_v (v_move rfl) rfl ?_)
                    | (refine op_skip rfl rfl (by simp [undef]) rfl ?_)
                  first
                    | (refine op_want rfl rfl ?_
                       refine op_v (v_move rfl) rfl ?_)
                    | (refine op_skip rfl rfl (by simp [undef]) rfl ?_)
                  first
                    | (refine op_want rfl rfl ?_
                       refine op_v (v_move rfl) rfl ?_)
                    | (refine op_skip rfl rfl (by simp [undef]) rfl ?_)
                  first
                    | (refine op_want rfl rfl ?_
                       refine op_v (v_negb (c := 0) rfl rfl (by omega)) rfl ?_)
                    | (refine op_skip rfl rfl (by simp [undef]) rfl ?_)
                  first
                    | (refine op_want rfl rfl ?_
                       first | refine op_v (v_cmpt rfl rfl rfl (by first | omega | (simp; done) | (simp; omega))) rfl ?_ | refine op_v (v_cmpf rfl rfl rfl (by first | omega | (simp; done) | (simp; omega))) rfl ?_ | refine op_v (v_cmp rfl rfl rfl) rfl ?_)
                    | (refine op_skip rfl rfl (by simp [undef]) rfl ?_)
                  first
                    | (refine op_want rfl rfl ?_
                       first | refine op_v (v_pickt rfl rfl) rfl ?_ | refine op_v (v_pickf rfl rfl) rfl ?_ | refine op_v (v_pickb rfl rfl rfl) rfl ?_)
                    | (refine op_skip rfl rfl (by simp [undef]) rfl ?_)
                  first | refine op_v (v_pickt rfl rfl) rfl ?_ | refine op_v (v_pickf rfl rfl) rfl ?_ | refine op_v (v_pickb rfl rfl rfl) rfl ?_
                  refine op_v (v_move rfl) rfl ?_
                  first
                    | (refine op_want rfl rfl ?_
                       refine op_v (v_move rfl) rfl ?_)
                    | (refine op_skip rfl rfl (by simp [undef]) rfl ?_)
                  first
                    | (refine op_want rfl rfl ?_
                       first | refine op_v (v_cmpt rfl rfl rfl (by first | omega | (simp; done) | (simp; omega))) rfl ?_ | refine op_v (v_cmpf rfl rfl rfl (by first | omega | (simp; done) | (simp; omega))) rfl ?_ | refine op_v (v_cmp rfl rfl rfl) rfl ?_)
                    | (refine op_skip rfl rfl (by simp [undef]) rfl ?_)
                  first
                    | (refine op_want rfl rfl ?_
                       refine op_v (v_load ty25 rfl (by repeat (first | exact Has.here | apply Has.there)) rfl) rfl ?_)
                    | (refine op_skip rfl rfl (by simp [undef]) rfl ?_)
                  first
                    | (refine op_want rfl rfl ?_
                       refine op_v (v_load ty25 rfl (by repeat (first | exact Has.here | apply Has.there)) rfl) rfl ?_)
                    | (refine op_skip rfl rfl (by simp [undef]) rfl ?_)
                  first
                    | (refine op_want rfl rfl ?_
                       refine op_call pl39 rfl rfl ((TSame_does (hva.mono (by repeat (first | exact Imm.le_refl _ | assumption | refine Imm.le_trans ?_ (by assumption)))) (hvb.mono (by repeat (first | exact Imm.le_refl _ | assumption | refine Imm.le_trans ?_ (by assumption)))) (by omega) (by omega))) Parts.none ?_
                       rintro v87 I87 _ hI87 ⟨rfl, rfl⟩
                       rw [show decide (a = b) = true by simp [heq]])
                    | (refine op_skip rfl rfl (by simp [undef]) rfl ?_)
                  first
                    | (refine op_want rfl rfl ?_
                       refine op_v (v_eqb Try.underlying4 rfl rfl rfl) rfl ?_)
                    | (refine op_skip rfl rfl (by simp [undef]) rfl ?_)
                  first | refine op_v (v_pickt rfl rfl) rfl ?_ | refine op_v (v_pickf rfl rfl) rfl ?_ | refine op_v (v_pickb rfl rfl rfl) rfl ?_
                  refine ops_nil ?_
                  refine post_next ?_
                  refine code_cond_f rfl ?_
                  refine code_skip ?_
                  refine post_next ?_
                  refine code_seq ?_
                  refine code_seq ?_
                  refine code_draw (.fl 0 (.fl 3 (.ef 1 (.fl 2 (.ef 4 (.fl 5 (.fl 6 (.fl 7 (.fl 8 (.fl 9 (.fl 10 (.fl 11 .done)))))))))))) (fun _ => _) mixed (by kernel_rfl) (by kernel_rfl) (fun _ => (List.Sublist.refl _)) ?_
                  refine e_float rfl rfl (fun hs_ => PF.mk rfl (v_load ty25 rfl (by repeat (first | exact Has.here | apply Has.there)) rfl) hs_) (by repeat (first | exact Imm.le_refl _ | assumption | refine Imm.le_trans ?_ (by assumption))) (by intro x hx; first | exact hx | exact List.mem_cons_of_mem _ hx | exact List.mem_append_right _ hx | (simp only [List.mem_cons, List.not_mem_nil, or_false] at hx; repeat' (first | (subst hx; simp [cellsL]; done) | rcases hx with hx | hx)) | simp_all) ?_
                  refine e_float rfl rfl (fun hs_ => PF.mk rfl (v_load ty25 rfl (by repeat (first | exact Has.here | apply Has.there)) rfl) hs_) (by repeat (first | exact Imm.le_refl _ | assumption | refine Imm.le_trans ?_ (by assumption))) (by intro x hx; first | exact hx | exact List.mem_cons_of_mem _ hx | exact List.mem_append_right _ hx | (simp only [List.mem_cons, List.not_mem_nil, or_false] at hx; repeat' (first | (subst hx; simp [cellsL]; done) | rcases hx with hx | hx)) | simp_all) ?_
                  refine e_eff rfl (by intro cs b hc; cases hc) (by intro c hc; cases hc) ?_
                  refine op_call pl40 rfl rfl ((TVars_does (hva.mono (by repeat (first | exact Imm.le_refl _ | assumption | refine Imm.le_trans ?_ (by assumption)))) (by omega))) Parts.none ?_
                  rintro v91 I91 _ hI91 ⟨hv91, rfl⟩
                  obtain ⟨va91, vc91, rfl⟩ := hv91.shape
                  have hq91 := varsP_len (partsT 1 a)
                  rw [partsT_length] at hq91
                  have hq94 := varsP_len (partsT 1 b)
                  rw [partsT_length] at hq94
                  refine ops_nil ?_
                  refine e_next rfl (side_all (by repeat (first | exact Imm.le_refl _ | assumption | refine Imm.le_trans ?_ (by assumption))) (fun _ => (by intro x hx; first | exact hx | exact List.mem_cons_of_mem _ hx | exact List.mem_append_right _ hx | (simp only [List.mem_cons, List.not_mem_nil, or_false] at hx; repeat' (first | (subst hx; simp [cellsL]; done) | rcases hx with hx | hx)) | simp_all))) ?_
                  refine e_float rfl rfl (fun hs_ => PF.mk rfl (v_len Try.underlying42 rfl) hs_) (by repeat (first | exact Imm.le_refl _ | assumption | refine Imm.le_trans ?_ (by assumption))) (by intro x hx; first | exact hx | exact List.mem_cons_of_mem _ hx | exact List.mem_append_right _ hx | (simp only [List.mem_cons, List.not_mem_nil, or_false] at hx; repeat' (first | (subst hx; simp [cellsL]; done) | rcases hx with hx | hx)) | simp_all) ?_
                  refine e_eff rfl (by intro cs b hc; cases hc) (by intro c hc; cases hc) ?_
                  refine op_call pl40 rfl rfl ((TVars_does (hvb.mono (by repeat (first | exact Imm.le_refl _ | assumption | refine Imm.le_trans ?_ (by assumption)))) (by omega))) Parts.none ?_
                  rintro v94 I94 _ hI94 ⟨hv94, rfl⟩
                  obtain ⟨va94, vc94, rfl⟩ := hv94.shape
                  refine ops_nil ?_
                  refine e_next rfl (side_all (by repeat (first | exact Imm.le_refl _ | assumption | refine Imm.le_trans ?_ (by assumption))) (fun _ => (by intro x hx; first | exact hx | exact List.mem_cons_of_mem _ hx | exact List.mem_append_right _ hx | (simp only [List.mem_cons, List.not_mem_nil, or_false] at hx; repeat' (first | (subst hx; simp [cellsL]; done) | rcases hx with hx | hx)) | simp_all))) ?_
                  refine e_float rfl rfl (fun hs_ => PF.mk rfl (v_len Try.underlying42 rfl) hs_) (by repeat (first | exact Imm.le_refl _ | assumption | refine Imm.le_trans ?_ (by assumption))) (by intro x hx; first | exact hx | exact List.mem_cons_of_mem _ hx | exact List.mem_append_right _ hx | (simp only [List.mem_cons, List.not_mem_nil, or_false] at hx; repeat' (first | (subst hx; simp [cellsL]; done) | rcases hx with hx | hx)) | simp_all) ?_
                  first | refine e_float rfl rfl (fun hs_ => PF.mk rfl (v_addb rfl rfl rfl (by omega)) hs_) (by repeat (first | exact Imm.le_refl _ | assumption | refine Imm.le_trans ?_ (by assumption))) (by intro x hx; first | exact hx | exact List.mem_cons_of_mem _ hx | exact List.mem_append_right _ hx | (simp only [List.mem_cons, List.not_mem_nil, or_false] at hx; repeat' (first | (subst hx; simp [cellsL]; done) | rcases hx with hx | hx)) | simp_all) ?_ | refine e_float rfl rfl (fun hs_ => PF.mk rfl (v_add rfl rfl) hs_) (by repeat (first | exact Imm.le_refl _ | assumption | refine Imm.le_trans ?_ (by assumption))) (by intro x hx; first | exact hx | exact List.mem_cons_of_mem _ hx | exact List.mem_append_right _ hx | (simp only [List.mem_cons, List.not_mem_nil, or_false] at hx; repeat' (first | (subst hx; simp [cellsL]; done) | rcases hx with hx | hx)) | simp_all) ?_
                  by_cases hz : (varsP (partsT 1 a)).length + (varsP (partsT 1 b)).length = 0
                  · have hgr := stT_ground a.size a b (Nat.le_refl _) hA hB (vars_ground (by omega)) (vars_ground (by omega))
                    first | refine e_float rfl rfl (fun hs_ => PF.mk rfl (v_cmpt rfl rfl rfl (by first | omega | (simp; done) | (simp; omega))) hs_) (by repeat (first | exact Imm.le_refl _ | assumption | refine Imm.le_trans ?_ (by assumption))) (by intro x hx; first | exact hx | exact List.mem_cons_of_mem _ hx | exact List.mem_append_right _ hx | (simp only [List.mem_cons, List.not_mem_nil, or_false] at hx; repeat' (first | (subst hx; simp [cellsL]; done) | rcases hx with hx | hx)) | simp_all) ?_ | refine e_float rfl rfl (fun hs_ => PF.mk rfl (v_cmpf rfl rfl rfl (by first | omega | (simp; done) | (simp; omega))) hs_) (by repeat (first | exact Imm.le_refl _ | assumption | refine Imm.le_trans ?_ (by assumption))) (by intro x hx; first | exact hx | exact List.mem_cons_of_mem _ hx | exact List.mem_append_right _ hx | (simp only [List.mem_cons, List.not_mem_nil, or_false] at hx; repeat' (first | (subst hx; simp [cellsL]; done) | rcases hx with hx | hx)) | simp_all) ?_ | refine e_float rfl rfl (fun hs_ => PF.mk rfl (v_cmp rfl rfl rfl) hs_) (by repeat (first | exact Imm.le_refl _ | assumption | refine Imm.le_trans ?_ (by assumption))) (by intro x hx; first | exact hx | exact List.mem_cons_of_mem _ hx | exact List.mem_append_right _ hx | (simp only [List.mem_cons, List.not_mem_nil, or_false] at hx; repeat' (first | (subst hx; simp [cellsL]; done) | rcases hx with hx | hx)) | simp_all) ?_
                    refine e_float rfl rfl (fun hs_ => PF.mk rfl (v_move rfl) hs_) (by repeat (first | exact Imm.le_refl _ | assumption | refine Imm.le_trans ?_ (by assumption))) (by intro x hx; first | exact hx | exact List.mem_cons_of_mem _ hx | exact List.mem_append_right _ hx | (simp only [List.mem_cons, List.not_mem_nil, or_false] at hx; repeat' (first | (subst hx; simp [cellsL]; done) | rcases hx with hx | hx)) | simp_all) ?_
                    first | refine e_float rfl rfl (fun hs_ => PF.mkg rfl rfl rfl (v_move rfl) hs_) (by repeat (first | exact Imm.le_refl _ | assumption | refine Imm.le_trans ?_ (by assumption))) (by intro x hx; first | exact hx | exact List.mem_cons_of_mem _ hx | exact List.mem_append_right _ hx | (simp only [List.mem_cons, List.not_mem_nil, or_false] at hx; repeat' (first | (subst hx; simp [cellsL]; done) | rcases hx with hx | hx)) | simp_all) ?_ | refine e_float rfl rfl (fun hs_ => PF.mks rfl (by intro c hc; cases hc) rfl rfl (by simp [undef]) hs_) (by repeat (first | exact Imm.le_refl _ | assumption | refine Imm.le_trans ?_ (by assumption))) (by intro x hx; first | exact hx | exact List.mem_cons_of_mem _ hx | exact List.mem_append_right _ hx | (simp only [List.mem_cons, List.not_mem_nil, or_false] at hx; repeat' (first | (subst hx; simp [cellsL]; done) | rcases hx with hx | hx)) | simp_all) ?_
                    first | refine e_float rfl rfl (fun hs_ => PF.mkg rfl rfl rfl (v_cmpt rfl rfl rfl (by first | omega | (simp; done) | (simp; omega))) hs_) (by repeat (first | exact Imm.le_refl _ | assumption | refine Imm.le_trans ?_ (by assumption))) (by intro x hx; first | exact hx | exact List.mem_cons_of_mem _ hx | exact List.mem_append_right _ hx | (simp only [List.mem_cons, List.not_mem_nil, or_false] at hx; repeat' (first | (subst hx; simp [cellsL]; done) | rcases hx with hx | hx)) | simp_all) ?_ | refine e_float rfl rfl (fun hs_ => PF.mkg rfl rfl rfl (v_cmpf rfl rfl rfl (by first | omega | (simp; done) | (simp; omega))) hs_) (by repeat (first | exact Imm.le_refl _ | assumption | refine Imm.le_trans ?_ (by assumption))) (by intro x hx; first | exact hx | exact List.mem_cons_of_mem _ hx | exact List.mem_append_right _ hx | (simp only [List.mem_cons, List.not_mem_nil, or_false] at hx; repeat' (first | (subst hx; simp [cellsL]; done) | rcases hx with hx | hx)) | simp_all) ?_ | refine e_float rfl rfl (fun hs_ => PF.mkg rfl rfl rfl (v_cmp rfl rfl rfl) hs_) (by repeat (first | exact Imm.le_refl _ | assumption | refine Imm.le_trans ?_ (by assumption))) (by intro x hx; first | exact hx | exact List.mem_cons_of_mem _ hx | exact List.mem_append_right _ hx | (simp only [List.mem_cons, List.not_mem_nil, or_false] at hx; repeat' (first | (subst hx; simp [cellsL]; done) | rcases hx with hx | hx)) | simp_all) ?_ | refine e_float rfl rfl (fun hs_ => PF.mks rfl (by intro c hc; cases hc) rfl rfl (by simp [undef]) hs_) (by repeat (first | exact Imm.le_refl _ | assumption | refine Imm.le_trans ?_ (by assumption))) (by intro x hx; first | exact hx | exact List.mem_cons_of_mem _ hx | exact List.mem_append_right _ hx | (simp only [List.mem_cons, List.not_mem_nil, or_false] at hx; repeat' (first | (subst hx; simp [cellsL]; done) | rcases hx with hx | hx)) | simp_all) ?_
                    first | refine e_float rfl rfl (fun hs_ => PF.mk rfl (v_pickt rfl rfl) hs_) (by repeat (first | exact Imm.le_refl _ | assumption | refine Imm.le_trans ?_ (by assumption))) (by intro x hx; first | exact hx | exact List.mem_cons_of_mem _ hx | exact List.mem_append_right _ hx | (simp only [List.mem_cons, List.not_mem_nil, or_false] at hx; repeat' (first | (subst hx; simp [cellsL]; done) | rcases hx with hx | hx)) | simp_all) ?_ | refine e_float rfl rfl (fun hs_ => PF.mk rfl (v_pickf rfl rfl) hs_) (by repeat (first | exact Imm.le_refl _ | assumption | refine Imm.le_trans ?_ (by assumption))) (by intro x hx; first | exact hx | exact List.mem_cons_of_mem _ hx | exact List.mem_append_right _ hx | (simp only [List.mem_cons, List.not_mem_nil, or_false] at hx; repeat' (first | (subst hx; simp [cellsL]; done) | rcases hx with hx | hx)) | simp_all) ?_ | refine e_float rfl rfl (fun hs_ => PF.mk rfl (v_pickb rfl rfl rfl) hs_) (by repeat (first | exact Imm.le_refl _ | assumption | refine Imm.le_trans ?_ (by assumption))) (by intro x hx; first | exact hx | exact List.mem_cons_of_mem _ hx | exact List.mem_append_right _ hx | (simp only [List.mem_cons, List.not_mem_nil, or_false] at hx; repeat' (first | (subst hx; simp [cellsL]; done) | rcases hx with hx | hx)) | simp_all) ?_
                    refine e_done ?_
                    refine post_next ?_
                    refine code_cond_f rfl ?_
                    refine code_skip ?_
                    refine post_next ?_
                    refine code_seq ?_
                    refine code_region ?_
                    refine op_call pl30 rfl rfl ((awake8_does _)) Parts.none ?_
                    rintro v102 I102 _ hI102 ⟨rfl, rfl⟩
                    refine op_v (v_move rfl) rfl ?_
                    first
                      | (refine op_want rfl rfl ?_
                         refine op_v (v_move rfl) rfl ?_)
                      | (refine op_skip rfl rfl (by simp [undef]) rfl ?_)
                    first
                      | (refine op_want rfl rfl ?_
                         first | refine op_v (v_cmpt rfl rfl rfl (by first | omega | (simp; done) | (simp; omega))) rfl ?_ | refine op_v (v_cmpf rfl rfl rfl (by first | omega | (simp; done) | (simp; omega))) rfl ?_ | refine op_v (v_cmp rfl rfl rfl) rfl ?_)
                      | (refine op_skip rfl rfl (by simp [undef]) rfl ?_)
                    first
                      | (refine op_want rfl rfl ?_
                         refine op_v (v_move rfl) rfl ?_)
                      | (refine op_skip rfl rfl (by simp [undef]) rfl ?_)
                    first
                      | (refine op_want rfl rfl ?_
                         refine op_v (v_move rfl) rfl ?_)
                      | (refine op_skip rfl rfl (by simp [undef]) rfl ?_)
                    first
                      | (refine op_want rfl rfl ?_
                         first | refine op_v (v_cmpt rfl rfl rfl (by first | omega | (simp; done) | (simp; omega))) rfl ?_ | refine op_v (v_cmpf rfl rfl rfl (by first | omega | (simp; done) | (simp; omega))) rfl ?_ | refine op_v (v_cmp rfl rfl rfl) rfl ?_)
                      | (refine op_skip rfl rfl (by simp [undef]) rfl ?_)
                    first
                      | (refine op_want rfl rfl ?_
                         first | refine op_v (v_pickt rfl rfl) rfl ?_ | refine op_v (v_pickf rfl rfl) rfl ?_ | refine op_v (v_pickb rfl rfl rfl) rfl ?_)
                      | (refine op_skip rfl rfl (by simp [undef]) rfl ?_)
                    first
                      | (refine op_want rfl rfl ?_
                         refine op_v (v_move rfl) rfl ?_)
                      | (refine op_skip rfl rfl (by simp [undef]) rfl ?_)
                    first
                      | (refine op_want rfl rfl ?_
                         refine op_v (v_move rfl) rfl ?_)
                      | (refine op_skip rfl rfl (by simp [undef]) rfl ?_)
                    first
                      | (refine op_want rfl rfl ?_
                         first | refine op_v (v_cmpt rfl rfl rfl (by first | omega | (simp; done) | (simp; omega))) rfl ?_ | refine op_v (v_cmpf rfl rfl rfl (by first | omega | (simp; done) | (simp; omega))) rfl ?_ | refine op_v (v_cmp rfl rfl rfl) rfl ?_)
                      | (refine op_skip rfl rfl (by simp [undef]) rfl ?_)
                    first
                      | (refine op_want rfl rfl ?_
                         first | refine op_v (v_pickt rfl rfl) rfl ?_ | refine op_v (v_pickf rfl rfl) rfl ?_ | refine op_v (v_pickb rfl rfl rfl) rfl ?_)
                      | (refine op_skip rfl rfl (by simp [undef]) rfl ?_)
                    first | refine op_v (v_pickt rfl rfl) rfl ?_ | refine op_v (v_pickf rfl rfl) rfl ?_ | refine op_v (v_pickb rfl rfl rfl) rfl ?_
                    refine op_v (v_assign rfl) rfl ?_
                    refine ops_nil ?_
                    refine post_next ?_
                    refine code_ret ?_
                    refine post_ret (rs := [.tmp 8]) rfl (List.Perm.refl _) (.cons (.tmp rfl) .nil) (List.nil_sublist _) ?_
                    exact ⟨rfl, rfl⟩
                  · first | refine e_float rfl rfl (fun hs_ => PF.mk rfl (v_cmpt rfl rfl rfl (by first | omega | (simp; done) | (simp; omega))) hs_) (by repeat (first | exact Imm.le_refl _ | assumption | refine Imm.le_trans ?_ (by assumption))) (by intro x hx; first | exact hx | exact List.mem_cons_of_mem _ hx | exact List.mem_append_right _ hx | (simp only [List.mem_cons, List.not_mem_nil, or_false] at hx; repeat' (first | (subst hx; simp [cellsL]; done) | rcases hx with hx | hx)) | simp_all) ?_ | refine e_float rfl rfl (fun hs_ => PF.mk rfl (v_cmpf rfl rfl rfl (by first | omega | (simp; done) | (simp; omega))) hs_) (by repeat (first | exact Imm.le_refl _ | assumption | refine Imm.le_trans ?_ (by assumption))) (by intro x hx; first | exact hx | exact List.mem_cons_of_mem _ hx | exact List.mem_append_right _ hx | (simp only [List.mem_cons, List.not_mem_nil, or_false] at hx; repeat' (first | (subst hx; simp [cellsL]; done) | rcases hx with hx | hx)) | simp_all) ?_ | refine e_float rfl rfl (fun hs_ => PF.mk rfl (v_cmp rfl rfl rfl) hs_) (by repeat (first | exact Imm.le_refl _ | assumption | refine Imm.le_trans ?_ (by assumption))) (by intro x hx; first | exact hx | exact List.mem_cons_of_mem _ hx | exact List.mem_append_right _ hx | (simp only [List.mem_cons, List.not_mem_nil, or_false] at hx; repeat' (first | (subst hx; simp [cellsL]; done) | rcases hx with hx | hx)) | simp_all) ?_
                    refine e_float rfl rfl (fun hs_ => PF.mk rfl (v_move rfl) hs_) (by repeat (first | exact Imm.le_refl _ | assumption | refine Imm.le_trans ?_ (by assumption))) (by intro x hx; first | exact hx | exact List.mem_cons_of_mem _ hx | exact List.mem_append_right _ hx | (simp only [List.mem_cons, List.not_mem_nil, or_false] at hx; repeat' (first | (subst hx; simp [cellsL]; done) | rcases hx with hx | hx)) | simp_all) ?_
                    first | refine e_float rfl rfl (fun hs_ => PF.mkg rfl rfl rfl (v_move rfl) hs_) (by repeat (first | exact Imm.le_refl _ | assumption | refine Imm.le_trans ?_ (by assumption))) (by intro x hx; first | exact hx | exact List.mem_cons_of_mem _ hx | exact List.mem_append_right _ hx | (simp only [List.mem_cons, List.not_mem_nil, or_false] at hx; repeat' (first | (subst hx; simp [cellsL]; done) | rcases hx with hx | hx)) | simp_all) ?_ | refine e_float rfl rfl (fun hs_ => PF.mks rfl (by intro c hc; cases hc) rfl rfl (by simp [undef]) hs_) (by repeat (first | exact Imm.le_refl _ | assumption | refine Imm.le_trans ?_ (by assumption))) (by intro x hx; first | exact hx | exact List.mem_cons_of_mem _ hx | exact List.mem_append_right _ hx | (simp only [List.mem_cons, List.not_mem_nil, or_false] at hx; repeat' (first | (subst hx; simp [cellsL]; done) | rcases hx with hx | hx)) | simp_all) ?_
                    first | refine e_float rfl rfl (fun hs_ => PF.mkg rfl rfl rfl (v_cmpt rfl rfl rfl (by first | omega | (simp; done) | (simp; omega))) hs_) (by repeat (first | exact Imm.le_refl _ | assumption | refine Imm.le_trans ?_ (by assumption))) (by intro x hx; first | exact hx | exact List.mem_cons_of_mem _ hx | exact List.mem_append_right _ hx | (simp only [List.mem_cons, List.not_mem_nil, or_false] at hx; repeat' (first | (subst hx; simp [cellsL]; done) | rcases hx with hx | hx)) | simp_all) ?_ | refine e_float rfl rfl (fun hs_ => PF.mkg rfl rfl rfl (v_cmpf rfl rfl rfl (by first | omega | (simp; done) | (simp; omega))) hs_) (by repeat (first | exact Imm.le_refl _ | assumption | refine Imm.le_trans ?_ (by assumption))) (by intro x hx; first | exact hx | exact List.mem_cons_of_mem _ hx | exact List.mem_append_right _ hx | (simp only [List.mem_cons, List.not_mem_nil, or_false] at hx; repeat' (first | (subst hx; simp [cellsL]; done) | rcases hx with hx | hx)) | simp_all) ?_ | refine e_float rfl rfl (fun hs_ => PF.mkg rfl rfl rfl (v_cmp rfl rfl rfl) hs_) (by repeat (first | exact Imm.le_refl _ | assumption | refine Imm.le_trans ?_ (by assumption))) (by intro x hx; first | exact hx | exact List.mem_cons_of_mem _ hx | exact List.mem_append_right _ hx | (simp only [List.mem_cons, List.not_mem_nil, or_false] at hx; repeat' (first | (subst hx; simp [cellsL]; done) | rcases hx with hx | hx)) | simp_all) ?_ | refine e_float rfl rfl (fun hs_ => PF.mks rfl (by intro c hc; cases hc) rfl rfl (by simp [undef]) hs_) (by repeat (first | exact Imm.le_refl _ | assumption | refine Imm.le_trans ?_ (by assumption))) (by intro x hx; first | exact hx | exact List.mem_cons_of_mem _ hx | exact List.mem_append_right _ hx | (simp only [List.mem_cons, List.not_mem_nil, or_false] at hx; repeat' (first | (subst hx; simp [cellsL]; done) | rcases hx with hx | hx)) | simp_all) ?_
                    first | refine e_float rfl rfl (fun hs_ => PF.mk rfl (v_pickt rfl rfl) hs_) (by repeat (first | exact Imm.le_refl _ | assumption | refine Imm.le_trans ?_ (by assumption))) (by intro x hx; first | exact hx | exact List.mem_cons_of_mem _ hx | exact List.mem_append_right _ hx | (simp only [List.mem_cons, List.not_mem_nil, or_false] at hx; repeat' (first | (subst hx; simp [cellsL]; done) | rcases hx with hx | hx)) | simp_all) ?_ | refine e_float rfl rfl (fun hs_ => PF.mk rfl (v_pickf rfl rfl) hs_) (by repeat (first | exact Imm.le_refl _ | assumption | refine Imm.le_trans ?_ (by assumption))) (by intro x hx; first | exact hx | exact List.mem_cons_of_mem _ hx | exact List.mem_append_right _ hx | (simp only [List.mem_cons, List.not_mem_nil, or_false] at hx; repeat' (first | (subst hx; simp [cellsL]; done) | rcases hx with hx | hx)) | simp_all) ?_ | refine e_float rfl rfl (fun hs_ => PF.mk rfl (v_pickb rfl rfl rfl) hs_) (by repeat (first | exact Imm.le_refl _ | assumption | refine Imm.le_trans ?_ (by assumption))) (by intro x hx; first | exact hx | exact List.mem_cons_of_mem _ hx | exact List.mem_append_right _ hx | (simp only [List.mem_cons, List.not_mem_nil, or_false] at hx; repeat' (first | (subst hx; simp [cellsL]; done) | rcases hx with hx | hx)) | simp_all) ?_
                    refine e_done ?_
                    refine post_next ?_
                    refine code_cond_f rfl ?_
                    refine code_skip ?_
                    refine post_next ?_
                    refine code_seq ?_
                    refine code_region ?_
                    refine op_call pl30 rfl rfl ((awake8_does _)) Parts.none ?_
                    rintro v102 I102 _ hI102 ⟨rfl, rfl⟩
                    refine op_v (v_move rfl) rfl ?_
                    first
                      | (refine op_want rfl rfl ?_
                         refine op_v (v_move rfl) rfl ?_)
                      | (refine op_skip rfl rfl (by simp [undef]) rfl ?_)
                    first
                      | (refine op_want rfl rfl ?_
                         first | refine op_v (v_cmpt rfl rfl rfl (by first | omega | (simp; done) | (simp; omega))) rfl ?_ | refine op_v (v_cmpf rfl rfl rfl (by first | omega | (simp; done) | (simp; omega))) rfl ?_ | refine op_v (v_cmp rfl rfl rfl) rfl ?_)
                      | (refine op_skip rfl rfl (by simp [undef]) rfl ?_)
                    first
                      | (refine op_want rfl rfl ?_
                         refine op_v (v_move rfl) rfl ?_)
                      | (refine op_skip rfl rfl (by simp [undef]) rfl ?_)
                    first
                      | (refine op_want rfl rfl ?_
                         refine op_v (v_move rfl) rfl ?_)
                      | (refine op_skip rfl rfl (by simp [undef]) rfl ?_)
                    first
                      | (refine op_want rfl rfl ?_
                         first | refine op_v (v_cmpt rfl rfl rfl (by first | omega | (simp; done) | (simp; omega))) rfl ?_ | refine op_v (v_cmpf rfl rfl rfl (by first | omega | (simp; done) | (simp; omega))) rfl ?_ | refine op_v (v_cmp rfl rfl rfl) rfl ?_)
                      | (refine op_skip rfl rfl (by simp [undef]) rfl ?_)
                    first
                      | (refine op_want rfl rfl ?_
                         first | refine op_v (v_pickt rfl rfl) rfl ?_ | refine op_v (v_pickf rfl rfl) rfl ?_ | refine op_v (v_pickb rfl rfl rfl) rfl ?_)
                      | (refine op_skip rfl rfl (by simp [undef]) rfl ?_)
                    first
                      | (refine op_want rfl rfl ?_
                         refine op_v (v_move rfl) rfl ?_)
                      | (refine op_skip rfl rfl (by simp [undef]) rfl ?_)
                    first
                      | (refine op_want rfl rfl ?_
                         refine op_v (v_move rfl) rfl ?_)
                      | (refine op_skip rfl rfl (by simp [undef]) rfl ?_)
                    first
                      | (refine op_want rfl rfl ?_
                         first | refine op_v (v_cmpt rfl rfl rfl (by first | omega | (simp; done) | (simp; omega))) rfl ?_ | refine op_v (v_cmpf rfl rfl rfl (by first | omega | (simp; done) | (simp; omega))) rfl ?_ | refine op_v (v_cmp rfl rfl rfl) rfl ?_)
                      | (refine op_skip rfl rfl (by simp [undef]) rfl ?_)
                    first
                      | (refine op_want rfl rfl ?_
                         first | refine op_v (v_pickt rfl rfl) rfl ?_ | refine op_v (v_pickf rfl rfl) rfl ?_ | refine op_v (v_pickb rfl rfl rfl) rfl ?_)
                      | (refine op_skip rfl rfl (by simp [undef]) rfl ?_)
                    first | refine op_v (v_pickt rfl rfl) rfl ?_ | refine op_v (v_pickf rfl rfl) rfl ?_ | refine op_v (v_pickb rfl rfl rfl) rfl ?_
                    refine op_v (v_assign rfl) rfl ?_
                    refine ops_nil ?_
                    refine post_next ?_
                    refine code_ret ?_
                    refine post_ret (rs := [.tmp 8]) rfl (List.Perm.refl _) (.cons (.tmp rfl) .nil) (List.nil_sublist _) ?_
                    exact ⟨rfl, rfl⟩
                · have hxm : stT gs a b = -1 := by omega
                  rw [hxm, show ngS (-1) = 1 from rfl]
                  have hne : ¬ a = b := fun e => by rw [hself e] at hxm; omega
                  refine op_v (v_move rfl) rfl ?_
                  first | refine op_v (v_cmpt rfl rfl rfl (by first | omega | (simp; done) | (simp; omega))) rfl ?_ | refine op_v (v_cmpf rfl rfl rfl (by first | omega | (simp; done) | (simp; omega))) rfl ?_ | refine op_v (v_cmp rfl rfl rfl) rfl ?_
                  refine op_v (v_eqb Try.underlying4 rfl rfl rfl) rfl ?_
                  refine op_v (v_move rfl) rfl ?_
                  first
                    | (refine op_want rfl rfl ?_
                       refine op_v (v_move rfl) rfl ?_)
                    | (refine op_skip rfl rfl (by simp [undef]) rfl ?_)
                  first
                    | (refine op_want rfl rfl ?_
                       first | refine op_v (v_cmpt rfl rfl rfl (by first | omega | (simp; done) | (simp; omega))) rfl ?_ | refine op_v (v_cmpf rfl rfl rfl (by first | omega | (simp; done) | (simp; omega))) rfl ?_ | refine op_v (v_cmp rfl rfl rfl) rfl ?_)
                    | (refine op_skip rfl rfl (by simp [undef]) rfl ?_)
                  first
                    | (refine op_want rfl rfl ?_
                       refine op_v (v_move rfl) rfl ?_)
                    | (refine op_skip rfl rfl (by simp [undef]) rfl ?_)
                  first
                    | (refine op_want rfl rfl ?_
                       refine op_v (v_move rfl) rfl ?_)
                    | (refine op_skip rfl rfl (by simp [undef]) rfl ?_)
                  first
                    | (refine op_want rfl rfl ?_
                       refine op_v (v_move rfl) rfl ?_)
                    | (refine op_skip rfl rfl (by simp [undef]) rfl ?_)
                  first
                    | (refine op_want rfl rfl ?_
                       refine op_v (v_negb (c := -1) rfl rfl (by omega)) rfl ?_)
                    | (refine op_skip rfl rfl (by simp [undef]) rfl ?_)
                  first
                    | (refine op_want rfl rfl ?_
                       first | refine op_v (v_cmpt rfl rfl rfl (by first | omega | (simp; done) | (simp; omega))) rfl ?_ | refine op_v (v_cmpf rfl rfl rfl (by first | omega | (simp; done) | (simp; omega))) rfl ?_ | refine op_v (v_cmp rfl rfl rfl) rfl ?_)
                    | (refine op_skip rfl rfl (by simp [undef]) rfl ?_)
                  first
                    | (refine op_want rfl rfl ?_
                       first | refine op_v (v_pickt rfl rfl) rfl ?_ | refine op_v (v_pickf rfl rfl) rfl ?_ | refine op_v (v_pickb rfl rfl rfl) rfl ?_)
                    | (refine op_skip rfl rfl (by simp [undef]) rfl ?_)
                  first | refine op_v (v_pickt rfl rfl) rfl ?_ | refine op_v (v_pickf rfl rfl) rfl ?_ | refine op_v (v_pickb rfl rfl rfl) rfl ?_
                  refine op_v (v_move rfl) rfl ?_
                  first
                    | (refine op_want rfl rfl ?_
                       refine op_v (v_move rfl) rfl ?_)
                    | (refine op_skip rfl rfl (by simp [undef]) rfl ?_)
                  first
                    | (refine op_want rfl rfl ?_
                       first | refine op_v (v_cmpt rfl rfl rfl (by first | omega | (simp; done) | (simp; omega))) rfl ?_ | refine op_v (v_cmpf rfl rfl rfl (by first | omega | (simp; done) | (simp; omega))) rfl ?_ | refine op_v (v_cmp rfl rfl rfl) rfl ?_)
                    | (refine op_skip rfl rfl (by simp [undef]) rfl ?_)
                  first
                    | (refine op_want rfl rfl ?_
                       refine op_v (v_load ty25 rfl (by repeat (first | exact Has.here | apply Has.there)) rfl) rfl ?_)
                    | (refine op_skip rfl rfl (by simp [undef]) rfl ?_)
                  first
                    | (refine op_want rfl rfl ?_
                       refine op_v (v_load ty25 rfl (by repeat (first | exact Has.here | apply Has.there)) rfl) rfl ?_)
                    | (refine op_skip rfl rfl (by simp [undef]) rfl ?_)
                  first
                    | (refine op_want rfl rfl ?_
                       refine op_call pl39 rfl rfl ((TSame_does (hva.mono (by repeat (first | exact Imm.le_refl _ | assumption | refine Imm.le_trans ?_ (by assumption)))) (hvb.mono (by repeat (first | exact Imm.le_refl _ | assumption | refine Imm.le_trans ?_ (by assumption)))) (by omega) (by omega))) Parts.none ?_
                       rintro v87 I87 _ hI87 ⟨rfl, rfl⟩
                       rw [show decide (a = b) = false by simp [hne]])
                    | (refine op_skip rfl rfl (by simp [undef]) rfl ?_)
                  first
                    | (refine op_want rfl rfl ?_
                       refine op_v (v_eqb Try.underlying4 rfl rfl rfl) rfl ?_)
                    | (refine op_skip rfl rfl (by simp [undef]) rfl ?_)
                  first | refine op_v (v_pickt rfl rfl) rfl ?_ | refine op_v (v_pickf rfl rfl) rfl ?_ | refine op_v (v_pickb rfl rfl rfl) rfl ?_
                  refine ops_nil ?_
                  refine post_next ?_
                  refine code_cond_f rfl ?_
                  refine code_skip ?_
                  refine post_next ?_
                  refine code_seq ?_
                  refine code_seq ?_
                  refine code_draw (.fl 0 (.fl 3 (.ef 1 (.fl 2 (.ef 4 (.fl 5 (.fl 6 (.fl 7 (.fl 8 (.fl 9 (.fl 10 (.fl 11 .done)))))))))))) (fun _ => _) mixed (by kernel_rfl) (by kernel_rfl) (fun _ => (List.Sublist.refl _)) ?_
                  refine e_float rfl rfl (fun hs_ => PF.mk rfl (v_load ty25 rfl (by repeat (first | exact Has.here | apply Has.there)) rfl) hs_) (by repeat (first | exact Imm.le_refl _ | assumption | refine Imm.le_trans ?_ (by assumption))) (by intro x hx; first | exact hx | exact List.mem_cons_of_mem _ hx | exact List.mem_append_right _ hx | (simp only [List.mem_cons, List.not_mem_nil, or_false] at hx; repeat' (first | (subst hx; simp [cellsL]; done) | rcases hx with hx | hx)) | simp_all) ?_
                  refine e_float rfl rfl (fun hs_ => PF.mk rfl (v_load ty25 rfl (by repeat (first | exact Has.here | apply Has.there)) rfl) hs_) (by repeat (first | exact Imm.le_refl _ | assumption | refine Imm.le_trans ?_ (by assumption))) (by intro x hx; first | exact hx | exact List.mem_cons_of_mem _ hx | exact List.mem_append_right _ hx | (simp only [List.mem_cons, List.not_mem_nil, or_false] at hx; repeat' (first | (subst hx; simp [cellsL]; done) | rcases hx with hx | hx)) | simp_all) ?_
                  refine e_eff rfl (by intro cs b hc; cases hc) (by intro c hc; cases hc) ?_
                  refine op_call pl40 rfl rfl ((TVars_does (hva.mono (by repeat (first | exact Imm.le_refl _ | assumption | refine Imm.le_trans ?_ (by assumption)))) (by omega))) Parts.none ?_
                  rintro v91 I91 _ hI91 ⟨hv91, rfl⟩
                  obtain ⟨va91, vc91, rfl⟩ := hv91.shape
                  have hq91 := varsP_len (partsT 1 a)
                  rw [partsT_length] at hq91
                  have hq94 := varsP_len (partsT 1 b)
                  rw [partsT_length] at hq94
                  refine ops_nil ?_
                  refine e_next rfl (side_all (by repeat (first | exact Imm.le_refl _ | assumption | refine Imm.le_trans ?_ (by assumption))) (fun _ => (by intro x hx; first | exact hx | exact List.mem_cons_of_mem _ hx | exact List.mem_append_right _ hx | (simp only [List.mem_cons, List.not_mem_nil, or_false] at hx; repeat' (first | (subst hx; simp [cellsL]; done) | rcases hx with hx | hx)) | simp_all))) ?_
                  refine e_float rfl rfl (fun hs_ => PF.mk rfl (v_len Try.underlying42 rfl) hs_) (by repeat (first | exact Imm.le_refl _ | assumption | refine Imm.le_trans ?_ (by assumption))) (by intro x hx; first | exact hx | exact List.mem_cons_of_mem _ hx | exact List.mem_append_right _ hx | (simp only [List.mem_cons, List.not_mem_nil, or_false] at hx; repeat' (first | (subst hx; simp [cellsL]; done) | rcases hx with hx | hx)) | simp_all) ?_
                  refine e_eff rfl (by intro cs b hc; cases hc) (by intro c hc; cases hc) ?_
                  refine op_call pl40 rfl rfl ((TVars_does (hvb.mono (by repeat (first | exact Imm.le_refl _ | assumption | refine Imm.le_trans ?_ (by assumption)))) (by omega))) Parts.none ?_
                  rintro v94 I94 _ hI94 ⟨hv94, rfl⟩
                  obtain ⟨va94, vc94, rfl⟩ := hv94.shape
                  refine ops_nil ?_
                  refine e_next rfl (side_all (by repeat (first | exact Imm.le_refl _ | assumption | refine Imm.le_trans ?_ (by assumption))) (fun _ => (by intro x hx; first | exact hx | exact List.mem_cons_of_mem _ hx | exact List.mem_append_right _ hx | (simp only [List.mem_cons, List.not_mem_nil, or_false] at hx; repeat' (first | (subst hx; simp [cellsL]; done) | rcases hx with hx | hx)) | simp_all))) ?_
                  refine e_float rfl rfl (fun hs_ => PF.mk rfl (v_len Try.underlying42 rfl) hs_) (by repeat (first | exact Imm.le_refl _ | assumption | refine Imm.le_trans ?_ (by assumption))) (by intro x hx; first | exact hx | exact List.mem_cons_of_mem _ hx | exact List.mem_append_right _ hx | (simp only [List.mem_cons, List.not_mem_nil, or_false] at hx; repeat' (first | (subst hx; simp [cellsL]; done) | rcases hx with hx | hx)) | simp_all) ?_
                  first | refine e_float rfl rfl (fun hs_ => PF.mk rfl (v_addb rfl rfl rfl (by omega)) hs_) (by repeat (first | exact Imm.le_refl _ | assumption | refine Imm.le_trans ?_ (by assumption))) (by intro x hx; first | exact hx | exact List.mem_cons_of_mem _ hx | exact List.mem_append_right _ hx | (simp only [List.mem_cons, List.not_mem_nil, or_false] at hx; repeat' (first | (subst hx; simp [cellsL]; done) | rcases hx with hx | hx)) | simp_all) ?_ | refine e_float rfl rfl (fun hs_ => PF.mk rfl (v_add rfl rfl) hs_) (by repeat (first | exact Imm.le_refl _ | assumption | refine Imm.le_trans ?_ (by assumption))) (by intro x hx; first | exact hx | exact List.mem_cons_of_mem _ hx | exact List.mem_append_right _ hx | (simp only [List.mem_cons, List.not_mem_nil, or_false] at hx; repeat' (first | (subst hx; simp [cellsL]; done) | rcases hx with hx | hx)) | simp_all) ?_
                  by_cases hz : (varsP (partsT 1 a)).length + (varsP (partsT 1 b)).length = 0
                  · have hgr := stT_ground a.size a b (Nat.le_refl _) hA hB (vars_ground (by omega)) (vars_ground (by omega))
                    first | refine e_float rfl rfl (fun hs_ => PF.mk rfl (v_cmpt rfl rfl rfl (by first | omega | (simp; done) | (simp; omega))) hs_) (by repeat (first | exact Imm.le_refl _ | assumption | refine Imm.le_trans ?_ (by assumption))) (by intro x hx; first | exact hx | exact List.mem_cons_of_mem _ hx | exact List.mem_append_right _ hx | (simp only [List.mem_cons, List.not_mem_nil, or_false] at hx; repeat' (first | (subst hx; simp [cellsL]; done) | rcases hx with hx | hx)) | simp_all) ?_ | refine e_float rfl rfl (fun hs_ => PF.mk rfl (v_cmpf rfl rfl rfl (by first | omega | (simp; done) | (simp; omega))) hs_) (by repeat (first | exact Imm.le_refl _ | assumption | refine Imm.le_trans ?_ (by assumption))) (by intro x hx; first | exact hx | exact List.mem_cons_of_mem _ hx | exact List.mem_append_right _ hx | (simp only [List.mem_cons, List.not_mem_nil, or_false] at hx; repeat' (first | (subst hx; simp [cellsL]; done) | rcases hx with hx | hx)) | simp_all) ?_ | refine e_float rfl rfl (fun hs_ => PF.mk rfl (v_cmp rfl rfl rfl) hs_) (by repeat (first | exact Imm.le_refl _ | assumption | refine Imm.le_trans ?_ (by assumption))) (by intro x hx; first | exact hx | exact List.mem_cons_of_mem _ hx | exact List.mem_append_right _ hx | (simp only [List.mem_cons, List.not_mem_nil, or_false] at hx; repeat' (first | (subst hx; simp [cellsL]; done) | rcases hx with hx | hx)) | simp_all) ?_
                    refine e_float rfl rfl (fun hs_ => PF.mk rfl (v_move rfl) hs_) (by repeat (first | exact Imm.le_refl _ | assumption | refine Imm.le_trans ?_ (by assumption))) (by intro x hx; first | exact hx | exact List.mem_cons_of_mem _ hx | exact List.mem_append_right _ hx | (simp only [List.mem_cons, List.not_mem_nil, or_false] at hx; repeat' (first | (subst hx; simp [cellsL]; done) | rcases hx with hx | hx)) | simp_all) ?_
                    first | refine e_float rfl rfl (fun hs_ => PF.mkg rfl rfl rfl (v_move rfl) hs_) (by repeat (first | exact Imm.le_refl _ | assumption | refine Imm.le_trans ?_ (by assumption))) (by intro x hx; first | exact hx | exact List.mem_cons_of_mem _ hx | exact List.mem_append_right _ hx | (simp only [List.mem_cons, List.not_mem_nil, or_false] at hx; repeat' (first | (subst hx; simp [cellsL]; done) | rcases hx with hx | hx)) | simp_all) ?_ | refine e_float rfl rfl (fun hs_ => PF.mks rfl (by intro c hc; cases hc) rfl rfl (by simp [undef]) hs_) (by repeat (first | exact Imm.le_refl _ | assumption | refine Imm.le_trans ?_ (by assumption))) (by intro x hx; first | exact hx | exact List.mem_cons_of_mem _ hx | exact List.mem_append_right _ hx | (simp only [List.mem_cons, List.not_mem_nil, or_false] at hx; repeat' (first | (subst hx; simp [cellsL]; done) | rcases hx with hx | hx)) | simp_all) ?_
                    first | refine e_float rfl rfl (fun hs_ => PF.mkg rfl rfl rfl (v_cmpt rfl rfl rfl (by first | omega | (simp; done) | (simp; omega))) hs_) (by repeat (first | exact Imm.le_refl _ | assumption | refine Imm.le_trans ?_ (by assumption))) (by intro x hx; first | exact hx | exact List.mem_cons_of_mem _ hx | exact List.mem_append_right _ hx | (simp only [List.mem_cons, List.not_mem_nil, or_false] at hx; repeat' (first | (subst hx; simp [cellsL]; done) | rcases hx with hx | hx)) | simp_all) ?_ | refine e_float rfl rfl (fun hs_ => PF.mkg rfl rfl rfl (v_cmpf rfl rfl rfl (by first | omega | (simp; done) | (simp; omega))) hs_) (by repeat (first | exact Imm.le_refl _ | assumption | refine Imm.le_trans ?_ (by assumption))) (by intro x hx; first | exact hx | exact List.mem_cons_of_mem _ hx | exact List.mem_append_right _ hx | (simp only [List.mem_cons, List.not_mem_nil, or_false] at hx; repeat' (first | (subst hx; simp [cellsL]; done) | rcases hx with hx | hx)) | simp_all) ?_ | refine e_float rfl rfl (fun hs_ => PF.mkg rfl rfl rfl (v_cmp rfl rfl rfl) hs_) (by repeat (first | exact Imm.le_refl _ | assumption | refine Imm.le_trans ?_ (by assumption))) (by intro x hx; first | exact hx | exact List.mem_cons_of_mem _ hx | exact List.mem_append_right _ hx | (simp only [List.mem_cons, List.not_mem_nil, or_false] at hx; repeat' (first | (subst hx; simp [cellsL]; done) | rcases hx with hx | hx)) | simp_all) ?_ | refine e_float rfl rfl (fun hs_ => PF.mks rfl (by intro c hc; cases hc) rfl rfl (by simp [undef]) hs_) (by repeat (first | exact Imm.le_refl _ | assumption | refine Imm.le_trans ?_ (by assumption))) (by intro x hx; first | exact hx | exact List.mem_cons_of_mem _ hx | exact List.mem_append_right _ hx | (simp only [List.mem_cons, List.not_mem_nil, or_false] at hx; repeat' (first | (subst hx; simp [cellsL]; done) | rcases hx with hx | hx)) | simp_all) ?_
                    first | refine e_float rfl rfl (fun hs_ => PF.mk rfl (v_pickt rfl rfl) hs_) (by repeat (first | exact Imm.le_refl _ | assumption | refine Imm.le_trans ?_ (by assumption))) (by intro x hx; first | exact hx | exact List.mem_cons_of_mem _ hx | exact List.mem_append_right _ hx | (simp only [List.mem_cons, List.not_mem_nil, or_false] at hx; repeat' (first | (subst hx; simp [cellsL]; done) | rcases hx with hx | hx)) | simp_all) ?_ | refine e_float rfl rfl (fun hs_ => PF.mk rfl (v_pickf rfl rfl) hs_) (by repeat (first | exact Imm.le_refl _ | assumption | refine Imm.le_trans ?_ (by assumption))) (by intro x hx; first | exact hx | exact List.mem_cons_of_mem _ hx | exact List.mem_append_right _ hx | (simp only [List.mem_cons, List.not_mem_nil, or_false] at hx; repeat' (first | (subst hx; simp [cellsL]; done) | rcases hx with hx | hx)) | simp_all) ?_ | refine e_float rfl rfl (fun hs_ => PF.mk rfl (v_pickb rfl rfl rfl) hs_) (by repeat (first | exact Imm.le_refl _ | assumption | refine Imm.le_trans ?_ (by assumption))) (by intro x hx; first | exact hx | exact List.mem_cons_of_mem _ hx | exact List.mem_append_right _ hx | (simp only [List.mem_cons, List.not_mem_nil, or_false] at hx; repeat' (first | (subst hx; simp [cellsL]; done) | rcases hx with hx | hx)) | simp_all) ?_
                    refine e_done ?_
                    refine post_next ?_
                    refine code_cond_f rfl ?_
                    refine code_skip ?_
                    refine post_next ?_
                    refine code_seq ?_
                    refine code_region ?_
                    refine op_call pl30 rfl rfl ((awake8_does _)) Parts.none ?_
                    rintro v102 I102 _ hI102 ⟨rfl, rfl⟩
                    refine op_v (v_move rfl) rfl ?_
                    first
                      | (refine op_want rfl rfl ?_
                         refine op_v (v_move rfl) rfl ?_)
                      | (refine op_skip rfl rfl (by simp [undef]) rfl ?_)
                    first
                      | (refine op_want rfl rfl ?_
                         first | refine op_v (v_cmpt rfl rfl rfl (by first | omega | (simp; done) | (simp; omega))) rfl ?_ | refine op_v (v_cmpf rfl rfl rfl (by first | omega | (simp; done) | (simp; omega))) rfl ?_ | refine op_v (v_cmp rfl rfl rfl) rfl ?_)
                      | (refine op_skip rfl rfl (by simp [undef]) rfl ?_)
                    first
                      | (refine op_want rfl rfl ?_
                         refine op_v (v_move rfl) rfl ?_)
                      | (refine op_skip rfl rfl (by simp [undef]) rfl ?_)
                    first
                      | (refine op_want rfl rfl ?_
                         refine op_v (v_move rfl) rfl ?_)
                      | (refine op_skip rfl rfl (by simp [undef]) rfl ?_)
                    first
                      | (refine op_want rfl rfl ?_
                         first | refine op_v (v_cmpt rfl rfl rfl (by first | omega | (simp; done) | (simp; omega))) rfl ?_ | refine op_v (v_cmpf rfl rfl rfl (by first | omega | (simp; done) | (simp; omega))) rfl ?_ | refine op_v (v_cmp rfl rfl rfl) rfl ?_)
                      | (refine op_skip rfl rfl (by simp [undef]) rfl ?_)
                    first
                      | (refine op_want rfl rfl ?_
                         first | refine op_v (v_pickt rfl rfl) rfl ?_ | refine op_v (v_pickf rfl rfl) rfl ?_ | refine op_v (v_pickb rfl rfl rfl) rfl ?_)
                      | (refine op_skip rfl rfl (by simp [undef]) rfl ?_)
                    first
                      | (refine op_want rfl rfl ?_
                         refine op_v (v_move rfl) rfl ?_)
                      | (refine op_skip rfl rfl (by simp [undef]) rfl ?_)
                    first
                      | (refine op_want rfl rfl ?_
                         refine op_v (v_move rfl) rfl ?_)
                      | (refine op_skip rfl rfl (by simp [undef]) rfl ?_)
                    first
                      | (refine op_want rfl rfl ?_
                         first | refine op_v (v_cmpt rfl rfl rfl (by first | omega | (simp; done) | (simp; omega))) rfl ?_ | refine op_v (v_cmpf rfl rfl rfl (by first | omega | (simp; done) | (simp; omega))) rfl ?_ | refine op_v (v_cmp rfl rfl rfl) rfl ?_)
                      | (refine op_skip rfl rfl (by simp [undef]) rfl ?_)
                    first
                      | (refine op_want rfl rfl ?_
                         first | refine op_v (v_pickt rfl rfl) rfl ?_ | refine op_v (v_pickf rfl rfl) rfl ?_ | refine op_v (v_pickb rfl rfl rfl) rfl ?_)
                      | (refine op_skip rfl rfl (by simp [undef]) rfl ?_)
                    first | refine op_v (v_pickt rfl rfl) rfl ?_ | refine op_v (v_pickf rfl rfl) rfl ?_ | refine op_v (v_pickb rfl rfl rfl) rfl ?_
                    refine op_v (v_assign rfl) rfl ?_
                    refine ops_nil ?_
                    refine post_next ?_
                    refine code_ret ?_
                    refine post_ret (rs := [.tmp 8]) rfl (List.Perm.refl _) (.cons (.tmp rfl) .nil) (List.nil_sublist _) ?_
                    exact ⟨rfl, rfl⟩
                  · first | refine e_float rfl rfl (fun hs_ => PF.mk rfl (v_cmpt rfl rfl rfl (by first | omega | (simp; done) | (simp; omega))) hs_) (by repeat (first | exact Imm.le_refl _ | assumption | refine Imm.le_trans ?_ (by assumption))) (by intro x hx; first | exact hx | exact List.mem_cons_of_mem _ hx | exact List.mem_append_right _ hx | (simp only [List.mem_cons, List.not_mem_nil, or_false] at hx; repeat' (first | (subst hx; simp [cellsL]; done) | rcases hx with hx | hx)) | simp_all) ?_ | refine e_float rfl rfl (fun hs_ => PF.mk rfl (v_cmpf rfl rfl rfl (by first | omega | (simp; done) | (simp; omega))) hs_) (by repeat (first | exact Imm.le_refl _ | assumption | refine Imm.le_trans ?_ (by assumption))) (by intro x hx; first | exact hx | exact List.mem_cons_of_mem _ hx | exact List.mem_append_right _ hx | (simp only [List.mem_cons, List.not_mem_nil, or_false] at hx; repeat' (first | (subst hx; simp [cellsL]; done) | rcases hx with hx | hx)) | simp_all) ?_ | refine e_float rfl rfl (fun hs_ => PF.mk rfl (v_cmp rfl rfl rfl) hs_) (by repeat (first | exact Imm.le_refl _ | assumption | refine Imm.le_trans ?_ (by assumption))) (by intro x hx; first | exact hx | exact List.mem_cons_of_mem _ hx | exact List.mem_append_right _ hx | (simp only [List.mem_cons, List.not_mem_nil, or_false] at hx; repeat' (first | (subst hx; simp [cellsL]; done) | rcases hx with hx | hx)) | simp_all) ?_
                    refine e_float rfl rfl (fun hs_ => PF.mk rfl (v_move rfl) hs_) (by repeat (first | exact Imm.le_refl _ | assumption | refine Imm.le_trans ?_ (by assumption))) (by intro x hx; first | exact hx | exact List.mem_cons_of_mem _ hx | exact List.mem_append_right _ hx | (simp only [List.mem_cons, List.not_mem_nil, or_false] at hx; repeat' (first | (subst hx; simp [cellsL]; done) | rcases hx with hx | hx)) | simp_all) ?_
                    first | refine e_float rfl rfl (fun hs_ => PF.mkg rfl rfl rfl (v_move rfl) hs_) (by repeat (first | exact Imm.le_refl _ | assumption | refine Imm.le_trans ?_ (by assumption))) (by intro x hx; first | exact hx | exact List.mem_cons_of_mem _ hx | exact List.mem_append_right _ hx | (simp only [List.mem_cons, List.not_mem_nil, or_false] at hx; repeat' (first | (subst hx; simp [cellsL]; done) | rcases hx with hx | hx)) | simp_all) ?_ | refine e_float rfl rfl (fun hs_ => PF.mks rfl (by intro c hc; cases hc) rfl rfl (by simp [undef]) hs_) (by repeat (first | exact Imm.le_refl _ | assumption | refine Imm.le_trans ?_ (by assumption))) (by intro x hx; first | exact hx | exact List.mem_cons_of_mem _ hx | exact List.mem_append_right _ hx | (simp only [List.mem_cons, List.not_mem_nil, or_false] at hx; repeat' (first | (subst hx; simp [cellsL]; done) | rcases hx with hx | hx)) | simp_all) ?_
                    first | refine e_float rfl rfl (fun hs_ => PF.mkg rfl rfl rfl (v_cmpt rfl rfl rfl (by first | omega | (simp; done) | (simp; omega))) hs_) (by repeat (first | exact Imm.le_refl _ | assumption | refine Imm.le_trans ?_ (by assumption))) (by intro x hx; first | exact hx | exact List.mem_cons_of_mem _ hx | exact List.mem_append_right _ hx | (simp only [List.mem_cons, List.not_mem_nil, or_false] at hx; repeat' (first | (subst hx; simp [cellsL]; done) | rcases hx with hx | hx)) | simp_all) ?_ | refine e_float rfl rfl (fun hs_ => PF.mkg rfl rfl rfl (v_cmpf rfl rfl rfl (by first | omega | (simp; done) | (simp; omega))) hs_) (by repeat (first | exact Imm.le_refl _ | assumption | refine Imm.le_trans ?_ (by assumption))) (by intro x hx; first | exact hx | exact List.mem_cons_of_mem _ hx | exact List.mem_append_right _ hx | (simp only [List.mem_cons, List.not_mem_nil, or_false] at hx; repeat' (first | (subst hx; simp [cellsL]; done) | rcases hx with hx | hx)) | simp_all) ?_ | refine e_float rfl rfl (fun hs_ => PF.mkg rfl rfl rfl (v_cmp rfl rfl rfl) hs_) (by repeat (first | exact Imm.le_refl _ | assumption | refine Imm.le_trans ?_ (by assumption))) (by intro x hx; first | exact hx | exact List.mem_cons_of_mem _ hx | exact List.mem_append_right _ hx | (simp only [List.mem_cons, List.not_mem_nil, or_false] at hx; repeat' (first | (subst hx; simp [cellsL]; done) | rcases hx with hx | hx)) | simp_all) ?_ | refine e_float rfl rfl (fun hs_ => PF.mks rfl (by intro c hc; cases hc) rfl rfl (by simp [undef]) hs_) (by repeat (first | exact Imm.le_refl _ | assumption | refine Imm.le_trans ?_ (by assumption))) (by intro x hx; first | exact hx | exact List.mem_cons_of_mem _ hx | exact List.mem_append_right _ hx | (simp only [List.mem_cons, List.not_mem_nil, or_false] at hx; repeat' (first | (subst hx; simp [cellsL]; done) | rcases hx with hx | hx)) | simp_all) ?_
                    first | refine e_float rfl rfl (fun hs_ => PF.mk rfl (v_pickt rfl rfl) hs_) (by repeat (first | exact Imm.le_refl _ | assumption | refine Imm.le_trans ?_ (by assumption))) (by intro x hx; first | exact hx | exact List.mem_cons_of_mem _ hx | exact List.mem_append_right _ hx | (simp only [List.mem_cons, List.not_mem_nil, or_false] at hx; repeat' (first | (subst hx; simp [cellsL]; done) | rcases hx with hx | hx)) | simp_all) ?_ | refine e_float rfl rfl (fun hs_ => PF.mk rfl (v_pickf rfl rfl) hs_) (by repeat (first | exact Imm.le_refl _ | assumption | refine Imm.le_trans ?_ (by assumption))) (by intro x hx; first | exact hx | exact List.mem_cons_of_mem _ hx | exact List.mem_append_right _ hx | (simp only [List.mem_cons, List.not_mem_nil, or_false] at hx; repeat' (first | (subst hx; simp [cellsL]; done) | rcases hx with hx | hx)) | simp_all) ?_ | refine e_float rfl rfl (fun hs_ => PF.mk rfl (v_pickb rfl rfl rfl) hs_) (by repeat (first | exact Imm.le_refl _ | assumption | refine Imm.le_trans ?_ (by assumption))) (by intro x hx; first | exact hx | exact List.mem_cons_of_mem _ hx | exact List.mem_append_right _ hx | (simp only [List.mem_cons, List.not_mem_nil, or_false] at hx; repeat' (first | (subst hx; simp [cellsL]; done) | rcases hx with hx | hx)) | simp_all) ?_
                    refine e_done ?_
                    refine post_next ?_
                    refine code_cond_f rfl ?_
                    refine code_skip ?_
                    refine post_next ?_
                    refine code_seq ?_
                    refine code_region ?_
                    refine op_call pl30 rfl rfl ((awake8_does _)) Parts.none ?_
                    rintro v102 I102 _ hI102 ⟨rfl, rfl⟩
                    refine op_v (v_move rfl) rfl ?_
                    first
                      | (refine op_want rfl rfl ?_
                         refine op_v (v_move rfl) rfl ?_)
                      | (refine op_skip rfl rfl (by simp [undef]) rfl ?_)
                    first
                      | (refine op_want rfl rfl ?_
                         first | refine op_v (v_cmpt rfl rfl rfl (by first | omega | (simp; done) | (simp; omega))) rfl ?_ | refine op_v (v_cmpf rfl rfl rfl (by first | omega | (simp; done) | (simp; omega))) rfl ?_ | refine op_v (v_cmp rfl rfl rfl) rfl ?_)
                      | (refine op_skip rfl rfl (by simp [undef]) rfl ?_)
                    first
                      | (refine op_want rfl rfl ?_
                         refine op_v (v_move rfl) rfl ?_)
                      | (refine op_skip rfl rfl (by simp [undef]) rfl ?_)
                    first
                      | (refine op_want rfl rfl ?_
                         refine op_v (v_move rfl) rfl ?_)
                      | (refine op_skip rfl rfl (by simp [undef]) rfl ?_)
                    first
                      | (refine op_want rfl rfl ?_
                         first | refine op_v (v_cmpt rfl rfl rfl (by first | omega | (simp; done) | (simp; omega))) rfl ?_ | refine op_v (v_cmpf rfl rfl rfl (by first | omega | (simp; done) | (simp; omega))) rfl ?_ | refine op_v (v_cmp rfl rfl rfl) rfl ?_)
                      | (refine op_skip rfl rfl (by simp [undef]) rfl ?_)
                    first
                      | (refine op_want rfl rfl ?_
                         first | refine op_v (v_pickt rfl rfl) rfl ?_ | refine op_v (v_pickf rfl rfl) rfl ?_ | refine op_v (v_pickb rfl rfl rfl) rfl ?_)
                      | (refine op_skip rfl rfl (by simp [undef]) rfl ?_)
                    first
                      | (refine op_want rfl rfl ?_
                         refine op_v (v_move rfl) rfl ?_)
                      | (refine op_skip rfl rfl (by simp [undef]) rfl ?_)
                    first
                      | (refine op_want rfl rfl ?_
                         refine op_v (v_move rfl) rfl ?_)
                      | (refine op_skip rfl rfl (by simp [undef]) rfl ?_)
                    first
                      | (refine op_want rfl rfl ?_
                         first | refine op_v (v_cmpt rfl rfl rfl (by first | omega | (simp; done) | (simp; omega))) rfl ?_ | refine op_v (v_cmpf rfl rfl rfl (by first | omega | (simp; done) | (simp; omega))) rfl ?_ | refine op_v (v_cmp rfl rfl rfl) rfl ?_)
                      | (refine op_skip rfl rfl (by simp [undef]) rfl ?_)
                    first
                      | (refine op_want rfl rfl ?_
                         first | refine op_v (v_pickt rfl rfl) rfl ?_ | refine op_v (v_pickf rfl rfl) rfl ?_ | refine op_v (v_pickb rfl rfl rfl) rfl ?_)
                      | (refine op_skip rfl rfl (by simp [undef]) rfl ?_)
                    first | refine op_v (v_pickt rfl rfl) rfl ?_ | refine op_v (v_pickf rfl rfl) rfl ?_ | refine op_v (v_pickb rfl rfl rfl) rfl ?_
                    refine op_v (v_assign rfl) rfl ?_
                    refine ops_nil ?_
                    refine post_next ?_
                    refine code_ret ?_
                    refine post_ret (rs := [.tmp 8]) rfl (List.Perm.refl _) (.cons (.tmp rfl) .nil) (List.nil_sublist _) ?_
                    exact ⟨rfl, rfl⟩
  · have h23' : b22 = false := by simpa using h23
    subst h23'
    refine op_v (v_not rfl) rfl ?_
    refine ops_nil ?_
    refine post_next ?_
    refine code_cond_t rfl ?_
    refine code_seq ?_
    refine code_region ?_
    refine op_v (v_assign rfl) rfl ?_
    refine ops_nil ?_
    refine post_next ?_
    refine code_ret ?_
    refine post_ret_then ?_
    refine post_ret (rs := [.tmp 8]) rfl (List.Perm.refl _) (.cons (.tmp rfl) .nil) (List.nil_sublist _) ?_
    exact ⟨rfl, rfl⟩
end Go.Proofs.Ytegceppoioeeaaa
