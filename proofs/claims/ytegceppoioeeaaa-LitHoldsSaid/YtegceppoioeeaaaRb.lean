/- Walks: the document's answers on terms of a signature. -/
import Derived.Test.YtegceppoioeeaaaRa
set_option linter.unusedVariables false
set_option linter.unusedSimpArgs false
set_option linter.unnecessarySimpa false
/- short -/
namespace Go.Proofs.Ytegceppoioeeaaa
open Go Lg

/-! ### plain -/
theorem any_partsL (d : Nat) : ∀ ts : List T, (partsL d ts).any badN = ts.any fun t => (partsT 1 t).any badN
  | [] => rfl
  | t :: r => by rw [partsL, List.any_append, List.any_cons, any_partsL d r, any_T d 1 t]
theorem any_visL (p : Bool × T → Bool) : ∀ ts : List T, (visL ts).any p = ts.any fun t => (visT false t).any p
  | [] => rfl
  | t :: r => by rw [visL, List.any_append, List.any_cons, any_visL p r]
theorem unkB_top (gs : List Sy) (b c : Bool) (t : T) : unkB gs (b, t) = unkB gs (c, t) := rfl
theorem unk_vis (gs : List Sy) (b : Bool) (t : T) : (visT b t).any (unkB gs) = unkG gs t := by
  unfold unkG; rw [visT_eq, visT_eq]; rfl
theorem unkG_eq (gs : List Sy) (t : T) : unkG gs t = (unkB gs (true, t) || t.args.any (unkG gs)) := by
  unfold unkG
  rw [visT_eq, List.any_cons, any_visL]
  congr 2
  funext u
  exact unk_vis gs false u
theorem mixG_eq (gs : List Sy) (t : T) : mixG gs t = t.args.any fun u => mixB gs (false, u) || mixG gs u := by
  have h0 : ∀ u : T, mixB gs (true, u) = false := fun u => by simp [mixB]
  have h1 : ∀ u : T, mixG gs u = (visL u.args).any (mixB gs) := fun u => by unfold mixG; rw [visT_eq, List.any_cons, h0]; simp
  rw [h1, any_visL]
  congr 1
  funext u
  rw [visT_eq, List.any_cons, h1 u]
def badT (t : T) : Bool := (partsT 1 t).any badN
theorem badT_eq (h : Int) (ts : List T) : badT (.mk h ts) = (badN (1, .mk h ts) || ts.any badT) := by
  unfold badT
  rw [partsT, List.any_cons, any_partsL]
theorem chkT_args {h : Int} {ts : List T} (hc : chkT (.mk h ts) = 0) : (h < 0 → ts = []) ∧ ∀ k (hk : k < ts.length), chkT ts[k] = 0 :=
  ⟨fun hn => (chk_vis hc (true, .mk h ts) (by rw [visT_eq]; exact List.mem_cons_self ..)).1 hn, fun k hk => chk_part hc k hk⟩
def truG (gs : List Sy) (t : T) : Bool := decide (0 ≤ t.head) && (decide (t.head < gs.length) && trG gs t.head)
theorem mixB_tru {gs : List Sy} {t : T} (h : unkG gs t = false) : mixB gs (false, t) = truG gs t := by
  have h2 : unkB gs (false, t) = false := by rw [unkG_eq] at h; simp only [Bool.or_eq_false_iff] at h; exact h.1
  unfold mixB truG
  rw [h2]
  by_cases h0 : 0 ≤ t.head
  · have : ¬ (gs.length : Int) ≤ t.head := by
      intro hq; simp [unkB, h0, hq] at h2
    simp [h0, show t.head < gs.length by omega]
  · simp [h0]
theorem badN_iff {h : Int} {ts : List T} : badN (1, .mk h ts) = true ↔ (h < 0 ∧ 0 < ts.length) ∨ h < -256 ∨ 1023 < h ∨ 8 < ts.length := by
  have e : badN (1, .mk h ts) = (decide (h < 0) && decide (0 < ts.length) || decide (h < -256) || decide (1023 < h) || decide (8 < ts.length)) := rfl
  rw [e]; simp only [Bool.or_eq_true, Bool.and_eq_true, decide_eq_true_eq, or_assoc]
theorem unkB_iff {gs : List Sy} {b : Bool} {h : Int} {ts : List T} : unkB gs (b, .mk h ts) = true ↔ 0 ≤ h ∧ ((gs.length : Int) ≤ h ∨ (ts.length : Int) ≠ arG gs h) := by
  have e : unkB gs (b, .mk h ts) = (decide (0 ≤ h) && (decide ((gs.length : Int) ≤ h) || decide ((ts.length : Int) ≠ arG gs h))) := rfl
  rw [e]; simp only [Bool.or_eq_true, Bool.and_eq_true, decide_eq_true_eq]
/-! ### walks -/
theorem good_does : ∀ (n : Nat) (t : T), t.size ≤ n → ∀ (I : Imm) (v : Value), RepT I v t →
    Does Try.prog 125 [v] I [] (fun v I' δ' => v = .bool (!badT t) ∧ δ' = []) := by
  intro n
  induction n with
  | zero => intro t ht; have := t.size_pos; omega
  | succ n ih =>
    intro t ht I v hv
    obtain ⟨h, ts⟩ := t
    obtain ⟨ad, c, ss, rfl, hr, hc, hb, hat, hsub⟩ := hv.elim
    have hsz : (T.mk h ts).size = 1 + sizeL ts := by simp [T.size]
    have hbn : badN (1, .mk h ts) = true → badT (.mk h ts) = true := fun q => by rw [badT_eq, q]; rfl
    refine Does.intro Try.func125 rfl Try.ntmps125 rfl fun w0 => ?_
    refine code_seq ?_
    refine code_region ?_
    refine o_box rfl rfl rfl (fun b1 => ?_)
    refine op_v (v_assign rfl) rfl ?_
    refine ops_nil ?_
    refine post_next ?_
    refine code_seq ?_
    refine code_seq ?_
    refine code_region ?_
    first | refine op_v (v_fieldB 0 Try.underlying25 rfl rfl fz3 rfl) rfl ?_ | refine op_v (v_fieldI 0 Try.underlying25 rfl rfl fz3 rfl (by assumption)) rfl ?_ | refine op_v (v_field Try.underlying25 rfl fz3 rfl rfl) rfl ?_
    refine op_v (v_loadA ty3 rfl rfl) rfl ?_
    by_cases h6 : h < 0
    · first | refine op_v (v_cmptA rfl rfl rfl) rfl ?_ | refine op_v (v_cmpfA rfl rfl rfl) rfl ?_ | refine op_v (v_cmp rfl rfl rfl) rfl ?_
      refine op_v (v_move rfl) rfl ?_
      first
        | (refine op_want rfl rfl ?_
           first | refine op_v (v_fieldB 1 Try.underlying25 rfl rfl fz23 rfl) rfl ?_ | refine op_v (v_fieldI 1 Try.underlying25 rfl rfl fz23 rfl (by assumption)) rfl ?_ | refine op_v (v_field Try.underlying25 rfl fz23 rfl rfl) rfl ?_)
        | (refine op_skip rfl rfl (by simp [undef]) rfl ?_)
      first
        | (refine op_want rfl rfl ?_
           refine op_v (v_loadA ty23 rfl rfl) rfl ?_)
        | (refine op_skip rfl rfl (by simp [undef]) rfl ?_)
      first
        | (refine op_want rfl rfl ?_
           refine op_v (v_len Try.underlying23 rfl) rfl ?_)
        | (refine op_skip rfl rfl (by simp [undef]) rfl ?_)
      by_cases h11 : 0 < ts.length
      · first
          | (refine op_want rfl rfl ?_
             first | refine op_v (v_cmptA rfl rfl rfl) rfl ?_ | refine op_v (v_cmpfA rfl rfl rfl) rfl ?_ | refine op_v (v_cmp rfl rfl rfl) rfl ?_)
          | (refine op_skip rfl rfl (by simp [undef]) rfl ?_)
        first | refine op_v (v_pickt rfl rfl) rfl ?_ | refine op_v (v_pickf rfl rfl) rfl ?_ | refine op_v (v_pickb rfl rfl rfl) rfl ?_
        refine op_v (v_move rfl) rfl ?_
        first
          | (refine op_want rfl rfl ?_
             first | refine op_v (v_fieldB 0 Try.underlying25 rfl rfl fz3 rfl) rfl ?_ | refine op_v (v_fieldI 0 Try.underlying25 rfl rfl fz3 rfl (by assumption)) rfl ?_ | refine op_v (v_field Try.underlying25 rfl fz3 rfl rfl) rfl ?_)
          | (refine op_skip rfl rfl (by simp [undef]) rfl ?_)
        first
          | (refine op_want rfl rfl ?_
             refine op_v (v_loadA ty3 rfl rfl) rfl ?_)
          | (refine op_skip rfl rfl (by simp [undef]) rfl ?_)
        first
          | (refine op_want rfl rfl ?_
             first | refine op_v (v_cmptA rfl rfl rfl) rfl ?_ | refine op_v (v_cmpfA rfl rfl rfl) rfl ?_ | refine op_v (v_cmp rfl rfl rfl) rfl ?_)
          | (refine op_skip rfl rfl (by simp [undef]) rfl ?_)
        first | refine op_v (v_pickt rfl rfl) rfl ?_ | refine op_v (v_pickf rfl rfl) rfl ?_ | refine op_v (v_pickb rfl rfl rfl) rfl ?_
        refine op_v (v_move rfl) rfl ?_
        first
          | (refine op_want rfl rfl ?_
             first | refine op_v (v_fieldB 0 Try.underlying25 rfl rfl fz3 rfl) rfl ?_ | refine op_v (v_fieldI 0 Try.underlying25 rfl rfl fz3 rfl (by assumption)) rfl ?_ | refine op_v (v_field Try.underlying25 rfl fz3 rfl rfl) rfl ?_)
          | (refine op_skip rfl rfl (by simp [undef]) rfl ?_)
        first
          | (refine op_want rfl rfl ?_
             refine op_v (v_loadA ty3 rfl rfl) rfl ?_)
          | (refine op_skip rfl rfl (by simp [undef]) rfl ?_)
        first
          | (refine op_want rfl rfl ?_
             first | refine op_v (v_cmptA rfl rfl rfl) rfl ?_ | refine op_v (v_cmpfA rfl rfl rfl) rfl ?_ | refine op_v (v_cmp rfl rfl rfl) rfl ?_)
          | (refine op_skip rfl rfl (by simp [undef]) rfl ?_)
        first | refine op_v (v_pickt rfl rfl) rfl ?_ | refine op_v (v_pickf rfl rfl) rfl ?_ | refine op_v (v_pickb rfl rfl rfl) rfl ?_
        refine op_v (v_move rfl) rfl ?_
        first
          | (refine op_want rfl rfl ?_
             first | refine op_v (v_fieldB 1 Try.underlying25 rfl rfl fz23 rfl) rfl ?_ | refine op_v (v_fieldI 1 Try.underlying25 rfl rfl fz23 rfl (by assumption)) rfl ?_ | refine op_v (v_field Try.underlying25 rfl fz23 rfl rfl) rfl ?_)
          | (refine op_skip rfl rfl (by simp [undef]) rfl ?_)
        first
          | (refine op_want rfl rfl ?_
             refine op_v (v_loadA ty23 rfl rfl) rfl ?_)
          | (refine op_skip rfl rfl (by simp [undef]) rfl ?_)
        first
          | (refine op_want rfl rfl ?_
             refine op_v (v_len Try.underlying23 rfl) rfl ?_)
          | (refine op_skip rfl rfl (by simp [undef]) rfl ?_)
        first
          | (refine op_want rfl rfl ?_
             first | refine op_v (v_cmptA rfl rfl rfl) rfl ?_ | refine op_v (v_cmpfA rfl rfl rfl) rfl ?_ | refine op_v (v_cmp rfl rfl rfl) rfl ?_)
          | (refine op_skip rfl rfl (by simp [undef]) rfl ?_)
        first | refine op_v (v_pickt rfl rfl) rfl ?_ | refine op_v (v_pickf rfl rfl) rfl ?_ | refine op_v (v_pickb rfl rfl rfl) rfl ?_
        refine ops_nil ?_
        refine post_next ?_
        refine code_cond_t rfl ?_
        refine code_seq ?_
        refine code_region ?_
        refine op_v (v_assign rfl) rfl ?_
        refine ops_nil ?_
        refine post_next ?_
        refine code_ret ?_
        refine post_ret_then ?_
        refine post_ret (rs := [.tmp 2]) rfl (List.Perm.refl _) (.cons (.tmp rfl) .nil) (List.nil_sublist _) ?_
        exact ⟨by rw [hbn (badN_iff.2 (.inl ⟨h6, h11⟩))]; rfl, rfl⟩
      · first
          | (refine op_want rfl rfl ?_
             first | refine op_v (v_cmptA rfl rfl rfl) rfl ?_ | refine op_v (v_cmpfA rfl rfl rfl) rfl ?_ | refine op_v (v_cmp rfl rfl rfl) rfl ?_)
          | (refine op_skip rfl rfl (by simp [undef]) rfl ?_)
        first | refine op_v (v_pickt rfl rfl) rfl ?_ | refine op_v (v_pickf rfl rfl) rfl ?_ | refine op_v (v_pickb rfl rfl rfl) rfl ?_
        refine op_v (v_move rfl) rfl ?_
        first
          | (refine op_want rfl rfl ?_
             first | refine op_v (v_fieldB 0 Try.underlying25 rfl rfl fz3 rfl) rfl ?_ | refine op_v (v_fieldI 0 Try.underlying25 rfl rfl fz3 rfl (by assumption)) rfl ?_ | refine op_v (v_field Try.underlying25 rfl fz3 rfl rfl) rfl ?_)
          | (refine op_skip rfl rfl (by simp [undef]) rfl ?_)
        first
          | (refine op_want rfl rfl ?_
             refine op_v (v_loadA ty3 rfl rfl) rfl ?_)
          | (refine op_skip rfl rfl (by simp [undef]) rfl ?_)
        by_cases h16 : h < -256
        · first
            | (refine op_want rfl rfl ?_
               first | refine op_v (v_cmptA rfl rfl rfl) rfl ?_ | refine op_v (v_cmpfA rfl rfl rfl) rfl ?_ | refine op_v (v_cmp rfl rfl rfl) rfl ?_)
            | (refine op_skip rfl rfl (by simp [undef]) rfl ?_)
          first | refine op_v (v_pickt rfl rfl) rfl ?_ | refine op_v (v_pickf rfl rfl) rfl ?_ | refine op_v (v_pickb rfl rfl rfl) rfl ?_
          refine op_v (v_move rfl) rfl ?_
          first
            | (refine op_want rfl rfl ?_
               first | refine op_v (v_fieldB 0 Try.underlying25 rfl rfl fz3 rfl) rfl ?_ | refine op_v (v_fieldI 0 Try.underlying25 rfl rfl fz3 rfl (by assumption)) rfl ?_ | refine op_v (v_field Try.underlying25 rfl fz3 rfl rfl) rfl ?_)
            | (refine op_skip rfl rfl (by simp [undef]) rfl ?_)
          first
            | (refine op_want rfl rfl ?_
               refine op_v (v_loadA ty3 rfl rfl) rfl ?_)
            | (refine op_skip rfl rfl (by simp [undef]) rfl ?_)
          first
            | (refine op_want rfl rfl ?_
               first | refine op_v (v_cmptA rfl rfl rfl) rfl ?_ | refine op_v (v_cmpfA rfl rfl rfl) rfl ?_ | refine op_v (v_cmp rfl rfl rfl) rfl ?_)
            | (refine op_skip rfl rfl (by simp [undef]) rfl ?_)
          first | refine op_v (v_pickt rfl rfl) rfl ?_ | refine op_v (v_pickf rfl rfl) rfl ?_ | refine op_v (v_pickb rfl rfl rfl) rfl ?_
          refine op_v (v_move rfl) rfl ?_
          first
            | (refine op_want rfl rfl ?_
               first | refine op_v (v_fieldB 1 Try.underlying25 rfl rfl fz23 rfl) rfl ?_ | refine op_v (v_fieldI 1 Try.underlying25 rfl rfl fz23 rfl (by assumption)) rfl ?_ | refine op_v (v_field Try.underlying25 rfl fz23 rfl rfl) rfl ?_)
            | (refine op_skip rfl rfl (by simp [undef]) rfl ?_)
          first
            | (refine op_want rfl rfl ?_
               refine op_v (v_loadA ty23 rfl rfl) rfl ?_)
            | (refine op_skip rfl rfl (by simp [undef]) rfl ?_)
          first
            | (refine op_want rfl rfl ?_
               refine op_v (v_len Try.underlying23 rfl) rfl ?_)
            | (refine op_skip rfl rfl (by simp [undef]) rfl ?_)
          first
            | (refine op_want rfl rfl ?_
               first | refine op_v (v_cmptA rfl rfl rfl) rfl ?_ | refine op_v (v_cmpfA rfl rfl rfl) rfl ?_ | refine op_v (v_cmp rfl rfl rfl) rfl ?_)
            | (refine op_skip rfl rfl (by simp [undef]) rfl ?_)
          first | refine op_v (v_pickt rfl rfl) rfl ?_ | refine op_v (v_pickf rfl rfl) rfl ?_ | refine op_v (v_pickb rfl rfl rfl) rfl ?_
          refine ops_nil ?_
          refine post_next ?_
          refine code_cond_t rfl ?_
          refine code_seq ?_
          refine code_region ?_
          refine op_v (v_assign rfl) rfl ?_
          refine ops_nil ?_
          refine post_next ?_
          refine code_ret ?_
          refine post_ret_then ?_
          refine post_ret (rs := [.tmp 2]) rfl (List.Perm.refl _) (.cons (.tmp rfl) .nil) (List.nil_sublist _) ?_
          exact ⟨by rw [hbn (badN_iff.2 (.inr (.inl h16)))]; rfl, rfl⟩
        · first
            | (refine op_want rfl rfl ?_
               first | refine op_v (v_cmptA rfl rfl rfl) rfl ?_ | refine op_v (v_cmpfA rfl rfl rfl) rfl ?_ | refine op_v (v_cmp rfl rfl rfl) rfl ?_)
            | (refine op_skip rfl rfl (by simp [undef]) rfl ?_)
          first | refine op_v (v_pickt rfl rfl) rfl ?_ | refine op_v (v_pickf rfl rfl) rfl ?_ | refine op_v (v_pickb rfl rfl rfl) rfl ?_
          refine op_v (v_move rfl) rfl ?_
          first
            | (refine op_want rfl rfl ?_
               first | refine op_v (v_fieldB 0 Try.underlying25 rfl rfl fz3 rfl) rfl ?_ | refine op_v (v_fieldI 0 Try.underlying25 rfl rfl fz3 rfl (by assumption)) rfl ?_ | refine op_v (v_field Try.underlying25 rfl fz3 rfl rfl) rfl ?_)
            | (refine op_skip rfl rfl (by simp [undef]) rfl ?_)
          first
            | (refine op_want rfl rfl ?_
               refine op_v (v_loadA ty3 rfl rfl) rfl ?_)
            | (refine op_skip rfl rfl (by simp [undef]) rfl ?_)
          by_cases h21 : 1023 < h
          · first
              | (refine op_want rfl rfl ?_
                 first | refine op_v (v_cmptA rfl rfl rfl) rfl ?_ | refine op_v (v_cmpfA rfl rfl rfl) rfl ?_ | refine op_v (v_cmp rfl rfl rfl) rfl ?_)
              | (refine op_skip rfl rfl (by simp [undef]) rfl ?_)
            first | refine op_v (v_pickt rfl rfl) rfl ?_ | refine op_v (v_pickf rfl rfl) rfl ?_ | refine op_v (v_pickb rfl rfl rfl) rfl ?_
            refine op_v (v_move rfl) rfl ?_
            first
              | (refine op_want rfl rfl ?_
                 first | refine op_v (v_fieldB 1 Try.underlying25 rfl rfl fz23 rfl) rfl ?_ | refine op_v (v_fieldI 1 Try.underlying25 rfl rfl fz23 rfl (by assumption)) rfl ?_ | refine op_v (v_field Try.underlying25 rfl fz23 rfl rfl) rfl ?_)
              | (refine op_skip rfl rfl (by simp [undef]) rfl ?_)
            first
              | (refine op_want rfl rfl ?_
                 refine op_v (v_loadA ty23 rfl rfl) rfl ?_)
              | (refine op_skip rfl rfl (by simp [undef]) rfl ?_)
            first
              | (refine op_want rfl rfl ?_
                 refine op_v (v_len Try.underlying23 rfl) rfl ?_)
              | (refine op_skip rfl rfl (by simp [undef]) rfl ?_)
            first
              | (refine op_want rfl rfl ?_
                 first | refine op_v (v_cmptA rfl rfl rfl) rfl ?_ | refine op_v (v_cmpfA rfl rfl rfl) rfl ?_ | refine op_v (v_cmp rfl rfl rfl) rfl ?_)
              | (refine op_skip rfl rfl (by simp [undef]) rfl ?_)
            first | refine op_v (v_pickt rfl rfl) rfl ?_ | refine op_v (v_pickf rfl rfl) rfl ?_ | refine op_v (v_pickb rfl rfl rfl) rfl ?_
            refine ops_nil ?_
            refine post_next ?_
            refine code_cond_t rfl ?_
            refine code_seq ?_
            refine code_region ?_
            refine op_v (v_assign rfl) rfl ?_
            refine ops_nil ?_
            refine post_next ?_
            refine code_ret ?_
            refine post_ret_then ?_
            refine post_ret (rs := [.tmp 2]) rfl (List.Perm.refl _) (.cons (.tmp rfl) .nil) (List.nil_sublist _) ?_
            exact ⟨by rw [hbn (badN_iff.2 (.inr (.inr (.inl h21))))]; rfl, rfl⟩
          · first
              | (refine op_want rfl rfl ?_
                 first | refine op_v (v_cmptA rfl rfl rfl) rfl ?_ | refine op_v (v_cmpfA rfl rfl rfl) rfl ?_ | refine op_v (v_cmp rfl rfl rfl) rfl ?_)
              | (refine op_skip rfl rfl (by simp [undef]) rfl ?_)
            first | refine op_v (v_pickt rfl rfl) rfl ?_ | refine op_v (v_pickf rfl rfl) rfl ?_ | refine op_v (v_pickb rfl rfl rfl) rfl ?_
            refine op_v (v_move rfl) rfl ?_
            first
              | (refine op_want rfl rfl ?_
                 first | refine op_v (v_fieldB 1 Try.underlying25 rfl rfl fz23 rfl) rfl ?_ | refine op_v (v_fieldI 1 Try.underlying25 rfl rfl fz23 rfl (by assumption)) rfl ?_ | refine op_v (v_field Try.underlying25 rfl fz23 rfl rfl) rfl ?_)
              | (refine op_skip rfl rfl (by simp [undef]) rfl ?_)
            first
              | (refine op_want rfl rfl ?_
                 refine op_v (v_loadA ty23 rfl rfl) rfl ?_)
              | (refine op_skip rfl rfl (by simp [undef]) rfl ?_)
            first
              | (refine op_want rfl rfl ?_
                 refine op_v (v_len Try.underlying23 rfl) rfl ?_)
              | (refine op_skip rfl rfl (by simp [undef]) rfl ?_)
            by_cases h27 : 8 < ts.length
            · first
                | (refine op_want rfl rfl ?_
                   first | refine op_v (v_cmptA rfl rfl rfl) rfl ?_ | refine op_v (v_cmpfA rfl rfl rfl) rfl ?_ | refine op_v (v_cmp rfl rfl rfl) rfl ?_)
                | (refine op_skip rfl rfl (by simp [undef]) rfl ?_)
              first | refine op_v (v_pickt rfl rfl) rfl ?_ | refine op_v (v_pickf rfl rfl) rfl ?_ | refine op_v (v_pickb rfl rfl rfl) rfl ?_
              refine ops_nil ?_
              refine post_next ?_
              refine code_cond_t rfl ?_
              refine code_seq ?_
              refine code_region ?_
              refine op_v (v_assign rfl) rfl ?_
              refine ops_nil ?_
              refine post_next ?_
              refine code_ret ?_
              refine post_ret_then ?_
              refine post_ret (rs := [.tmp 2]) rfl (List.Perm.refl _) (.cons (.tmp rfl) .nil) (List.nil_sublist _) ?_
              exact ⟨by rw [hbn (badN_iff.2 (.inr (.inr (.inr h27))))]; rfl, rfl⟩
            · have hno : badN (1, .mk h ts) = false := by { cases hq : badN (1, .mk h ts); rfl; rw [badN_iff] at hq; omega }
              first
                | (refine op_want rfl rfl ?_
                   first | refine op_v (v_cmptA rfl rfl rfl) rfl ?_ | refine op_v (v_cmpfA rfl rfl rfl) rfl ?_ | refine op_v (v_cmp rfl rfl rfl) rfl ?_)
                | (refine op_skip rfl rfl (by simp [undef]) rfl ?_)
              first | refine op_v (v_pickt rfl rfl) rfl ?_ | refine op_v (v_pickf rfl rfl) rfl ?_ | refine op_v (v_pickb rfl rfl rfl) rfl ?_
              refine ops_nil ?_
              refine post_next ?_
              refine code_cond_f rfl ?_
              refine code_skip ?_
              refine post_next ?_
              refine code_seq ?_
              refine code_seq ?_
              refine code_region ?_
              refine op_v (v_assign rfl) rfl ?_
              refine ops_nil ?_
              refine post_next ?_
              refine code_block ?_
              refine code_loop (fun m σ' I' δ' => ∃ k : Nat, m = ts.length - k ∧ k ≤ ts.length ∧ σ' = [(1, .pointer (some ⟨b1, 0, none⟩)), (3, .int .i64 k)] ∧ I.le I' ∧ δ' = [.box b1 25 [.int .i64 h, .slice ad ts.length c]] ∧ ∀ i (h : i < ts.length), i < k → badT ts[i] = false) ts.length [(1, .pointer (some ⟨b1, 0, none⟩)), (3, .int .i64 (0 : Nat))] ⟨0, rfl, Nat.zero_le _, rfl, Imm.le_refl _, rfl, fun i _ h => by omega⟩ ⟨rfl, rfl, trivial⟩ ?_
              rintro m _ I0 _ ⟨k, rfl, hk, rfl, hI0, rfl, hp⟩
              refine code_seq ?_
              refine code_seq ?_
              refine code_region ?_
              refine op_v (v_move rfl) rfl ?_
              first | refine op_v (v_fieldB 1 Try.underlying25 rfl rfl fz23 rfl) rfl ?_ | refine op_v (v_fieldI 1 Try.underlying25 rfl rfl fz23 rfl (by assumption)) rfl ?_ | refine op_v (v_field Try.underlying25 rfl fz23 rfl rfl) rfl ?_
              refine op_v (v_loadA ty23 rfl rfl) rfl ?_
              refine op_v (v_len Try.underlying23 rfl) rfl ?_
              first | refine op_v (v_cmptA rfl rfl rfl) rfl ?_ | refine op_v (v_cmpfA rfl rfl rfl) rfl ?_ | refine op_v (v_cmp rfl rfl rfl) rfl ?_
              refine ops_nil ?_
              refine post_next ?_
              refine code_cond rfl (fun hc1 => ?_) (fun hc1 => ?_)
              · have hlt : k < ts.length := by simpa using hc1
                have hs1 := (hat k hlt).isSome
                have hm := sizeL_mem ts k hlt
                refine code_skip ?_
                refine post_next ?_
                refine code_seq ?_
                refine code_block ?_
                refine code_seq ?_
                refine code_region ?_
                first | refine op_v (v_fieldB 1 Try.underlying25 rfl rfl fz23 rfl) rfl ?_ | refine op_v (v_fieldI 1 Try.underlying25 rfl rfl fz23 rfl (by assumption)) rfl ?_ | refine op_v (v_field Try.underlying25 rfl fz23 rfl rfl) rfl ?_
                refine op_v (v_loadA ty23 rfl rfl) rfl ?_
                refine op_v (v_move rfl) rfl ?_
                first | refine op_v (v_indexA Try.underlying23 sz25 rfl rfl) rfl ?_ | refine op_v (v_indexIA Try.underlying23 sz25 rfl rfl) rfl ?_
                first | refine op_v (v_loadI0 ty25 ((hat k hlt).mono hI0) rfl rfl rfl) rfl ?_ | refine op_v (v_loadI ty25 ((hat k hlt).mono hI0) rfl rfl rfl) rfl ?_
                refine op_call pl125 rfl rfl ((ih ts[k] (by omega) _ _ ((hsub k hlt).mono hI0))) Parts.none ?_
                rintro _ I41 _ hI41 ⟨rfl, rfl⟩
                by_cases h42 : badT ts[k] = true
                · rw [h42]
                  refine op_v (v_not rfl) rfl ?_
                  refine ops_nil ?_
                  refine post_next ?_
                  refine code_cond_t rfl ?_
                  refine code_seq ?_
                  refine code_region ?_
                  refine op_v (v_assign rfl) rfl ?_
                  refine ops_nil ?_
                  refine post_next ?_
                  refine code_ret ?_
                  refine post_ret_block ?_
                  refine post_ret_then ?_
                  refine post_ret_then ?_
                  refine post_ret_block ?_
                  refine post_ret_then ?_
                  refine post_ret (rs := [.tmp 2]) rfl (List.Perm.refl _) (.cons (.tmp rfl) .nil) (List.nil_sublist _) ?_
                  exact ⟨by rw [badT_eq, any_at_true k hlt h42]; simp [outV], rfl⟩
                · have h42' : badT ts[k] = false := by simpa using h42
                  rw [h42']
                  refine op_v (v_not rfl) rfl ?_
                  refine ops_nil ?_
                  refine post_next ?_
                  refine code_cond_f rfl ?_
                  refine code_skip ?_
                  refine post_out ?_
                  refine post_next ?_
                  refine code_region ?_
                  refine op_v (v_move rfl) rfl ?_
                  first | refine op_v (v_addb rfl rfl rfl (by omega)) rfl ?_ | refine op_v (v_add rfl rfl) rfl ?_
                  refine op_v (v_assign rfl) rfl ?_
                  refine ops_nil ?_
                  refine post_again (ts.length - (k + 1)) [(1, .pointer (some ⟨b1, 0, none⟩)), (3, .int .i64 ((k + 1 : Nat) : Int))] (by omega) ⟨k + 1, rfl, hlt, rfl, Imm.le_trans hI0 hI41, rfl, ?_⟩ ⟨rfl, rfl, trivial⟩
                  intro i h hi
                  rcases Nat.lt_or_ge i k with hik | hik
                  · exact hp i h hik
                  have hik2 : i = k := by omega
                  subst hik2
                  exact h42'
              · have hge : k = ts.length := by simp at hc1; omega
                refine code_exit ?_
                refine post_exit_then ?_
                refine post_exit_then ?_
                refine post_exit ?_
                refine post_next ?_
                refine code_seq ?_
                refine code_region ?_
                refine op_v (v_assign rfl) rfl ?_
                refine ops_nil ?_
                refine post_next ?_
                refine code_ret ?_
                refine post_ret (rs := [.tmp 2]) rfl (List.Perm.refl _) (.cons (.tmp rfl) .nil) (List.nil_sublist _) ?_
                exact ⟨by rw [badT_eq, any_all_false (fun i hi => hp i hi (by omega)), hno]; rfl, rfl⟩
    · first | refine op_v (v_cmptA rfl rfl rfl) rfl ?_ | refine op_v (v_cmpfA rfl rfl rfl) rfl ?_ | refine op_v (v_cmp rfl rfl rfl) rfl ?_
      refine op_v (v_move rfl) rfl ?_
      first
        | (refine op_want rfl rfl ?_
           first | refine op_v (v_fieldB 1 Try.underlying25 rfl rfl fz23 rfl) rfl ?_ | refine op_v (v_fieldI 1 Try.underlying25 rfl rfl fz23 rfl (by assumption)) rfl ?_ | refine op_v (v_field Try.underlying25 rfl fz23 rfl rfl) rfl ?_)
        | (refine op_skip rfl rfl (by simp [undef]) rfl ?_)
      first
        | (refine op_want rfl rfl ?_
           refine op_v (v_loadA ty23 rfl rfl) rfl ?_)
        | (refine op_skip rfl rfl (by simp [undef]) rfl ?_)
      first
        | (refine op_want rfl rfl ?_
           refine op_v (v_len Try.underlying23 rfl) rfl ?_)
        | (refine op_skip rfl rfl (by simp [undef]) rfl ?_)
      first
        | (refine op_want rfl rfl ?_
           first | refine op_v (v_cmptA rfl rfl rfl) rfl ?_ | refine op_v (v_cmpfA rfl rfl rfl) rfl ?_ | refine op_v (v_cmp rfl rfl rfl) rfl ?_)
        | (refine op_skip rfl rfl (by simp [undef]) rfl ?_)
      first | refine op_v (v_pickt rfl rfl) rfl ?_ | refine op_v (v_pickf rfl rfl) rfl ?_ | refine op_v (v_pickb rfl rfl rfl) rfl ?_
      refine op_v (v_move rfl) rfl ?_
      first
        | (refine op_want rfl rfl ?_
           first | refine op_v (v_fieldB 0 Try.underlying25 rfl rfl fz3 rfl) rfl ?_ | refine op_v (v_fieldI 0 Try.underlying25 rfl rfl fz3 rfl (by assumption)) rfl ?_ | refine op_v (v_field Try.underlying25 rfl fz3 rfl rfl) rfl ?_)
        | (refine op_skip rfl rfl (by simp [undef]) rfl ?_)
      first
        | (refine op_want rfl rfl ?_
           refine op_v (v_loadA ty3 rfl rfl) rfl ?_)
        | (refine op_skip rfl rfl (by simp [undef]) rfl ?_)
      by_cases h16 : h < -256
      · first
          | (refine op_want rfl rfl ?_
             first | refine op_v (v_cmptA rfl rfl rfl) rfl ?_ | refine op_v (v_cmpfA rfl rfl rfl) rfl ?_ | refine op_v (v_cmp rfl rfl rfl) rfl ?_)
          | (refine op_skip rfl rfl (by simp [undef]) rfl ?_)
        first | refine op_v (v_pickt rfl rfl) rfl ?_ | refine op_v (v_pickf rfl rfl) rfl ?_ | refine op_v (v_pickb rfl rfl rfl) rfl ?_
        refine op_v (v_move rfl) rfl ?_
        first
          | (refine op_want rfl rfl ?_
             first | refine op_v (v_fieldB 0 Try.underlying25 rfl rfl fz3 rfl) rfl ?_ | refine op_v (v_fieldI 0 Try.underlying25 rfl rfl fz3 rfl (by assumption)) rfl ?_ | refine op_v (v_field Try.underlying25 rfl fz3 rfl rfl) rfl ?_)
          | (refine op_skip rfl rfl (by simp [undef]) rfl ?_)
        first
          | (refine op_want rfl rfl ?_
             refine op_v (v_loadA ty3 rfl rfl) rfl ?_)
          | (refine op_skip rfl rfl (by simp [undef]) rfl ?_)
        first
          | (refine op_want rfl rfl ?_
             first | refine op_v (v_cmptA rfl rfl rfl) rfl ?_ | refine op_v (v_cmpfA rfl rfl rfl) rfl ?_ | refine op_v (v_cmp rfl rfl rfl) rfl ?_)
          | (refine op_skip rfl rfl (by simp [undef]) rfl ?_)
        first | refine op_v (v_pickt rfl rfl) rfl ?_ | refine op_v (v_pickf rfl rfl) rfl ?_ | refine op_v (v_pickb rfl rfl rfl) rfl ?_
        refine op_v (v_move rfl) rfl ?_
        first
          | (refine op_want rfl rfl ?_
             first | refine op_v (v_fieldB 1 Try.underlying25 rfl rfl fz23 rfl) rfl ?_ | refine op_v (v_fieldI 1 Try.underlying25 rfl rfl fz23 rfl (by assumption)) rfl ?_ | refine op_v (v_field Try.underlying25 rfl fz23 rfl rfl) rfl ?_)
          | (refine op_skip rfl rfl (by simp [undef]) rfl ?_)
        first
          | (refine op_want rfl rfl ?_
             refine op_v (v_loadA ty23 rfl rfl) rfl ?_)
          | (refine op_skip rfl rfl (by simp [undef]) rfl ?_)
        first
          | (refine op_want rfl rfl ?_
             refine op_v (v_len Try.underlying23 rfl) rfl ?_)
          | (refine op_skip rfl rfl (by simp [undef]) rfl ?_)
        first
          | (refine op_want rfl rfl ?_
             first | refine op_v (v_cmptA rfl rfl rfl) rfl ?_ | refine op_v (v_cmpfA rfl rfl rfl) rfl ?_ | refine op_v (v_cmp rfl rfl rfl) rfl ?_)
          | (refine op_skip rfl rfl (by simp [undef]) rfl ?_)
        first | refine op_v (v_pickt rfl rfl) rfl ?_ | refine op_v (v_pickf rfl rfl) rfl ?_ | refine op_v (v_pickb rfl rfl rfl) rfl ?_
        refine ops_nil ?_
        refine post_next ?_
        refine code_cond_t rfl ?_
        refine code_seq ?_
        refine code_region ?_
        refine op_v (v_assign rfl) rfl ?_
        refine ops_nil ?_
        refine post_next ?_
        refine code_ret ?_
        refine post_ret_then ?_
        refine post_ret (rs := [.tmp 2]) rfl (List.Perm.refl _) (.cons (.tmp rfl) .nil) (List.nil_sublist _) ?_
        exact ⟨by rw [hbn (badN_iff.2 (.inr (.inl h16)))]; rfl, rfl⟩
      · first
          | (refine op_want rfl rfl ?_
             first | refine op_v (v_cmptA rfl rfl rfl) rfl ?_ | refine op_v (v_cmpfA rfl rfl rfl) rfl ?_ | refine op_v (v_cmp rfl rfl rfl) rfl ?_)
          | (refine op_skip rfl rfl (by simp [undef]) rfl ?_)
        first | refine op_v (v_pickt rfl rfl) rfl ?_ | refine op_v (v_pickf rfl rfl) rfl ?_ | refine op_v (v_pickb rfl rfl rfl) rfl ?_
        refine op_v (v_move rfl) rfl ?_
        first
          | (refine op_want rfl rfl ?_
             first | refine op_v (v_fieldB 0 Try.underlying25 rfl rfl fz3 rfl) rfl ?_ | refine op_v (v_fieldI 0 Try.underlying25 rfl rfl fz3 rfl (by assumption)) rfl ?_ | refine op_v (v_field Try.underlying25 rfl fz3 rfl rfl) rfl ?_)
          | (refine op_skip rfl rfl (by simp [undef]) rfl ?_)
        first
          | (refine op_want rfl rfl ?_
             refine op_v (v_loadA ty3 rfl rfl) rfl ?_)
          | (refine op_skip rfl rfl (by simp [undef]) rfl ?_)
        by_cases h21 : 1023 < h
        · first
            | (refine op_want rfl rfl ?_
               first | refine op_v (v_cmptA rfl rfl rfl) rfl ?_ | refine op_v (v_cmpfA rfl rfl rfl) rfl ?_ | refine op_v (v_cmp rfl rfl rfl) rfl ?_)
            | (refine op_skip rfl rfl (by simp [undef]) rfl ?_)
          first | refine op_v (v_pickt rfl rfl) rfl ?_ | refine op_v (v_pickf rfl rfl) rfl ?_ | refine op_v (v_pickb rfl rfl rfl) rfl ?_
          refine op_v (v_move rfl) rfl ?_
          first
            | (refine op_want rfl rfl ?_
               first | refine op_v (v_fieldB 1 Try.underlying25 rfl rfl fz23 rfl) rfl ?_ | refine op_v (v_fieldI 1 Try.underlying25 rfl rfl fz23 rfl (by assumption)) rfl ?_ | refine op_v (v_field Try.underlying25 rfl fz23 rfl rfl) rfl ?_)
            | (refine op_skip rfl rfl (by simp [undef]) rfl ?_)
          first
            | (refine op_want rfl rfl ?_
               refine op_v (v_loadA ty23 rfl rfl) rfl ?_)
            | (refine op_skip rfl rfl (by simp [undef]) rfl ?_)
          first
            | (refine op_want rfl rfl ?_
               refine op_v (v_len Try.underlying23 rfl) rfl ?_)
            | (refine op_skip rfl rfl (by simp [undef]) rfl ?_)
          first
            | (refine op_want rfl rfl ?_
               first | refine op_v (v_cmptA rfl rfl rfl) rfl ?_ | refine op_v (v_cmpfA rfl rfl rfl) rfl ?_ | refine op_v (v_cmp rfl rfl rfl) rfl ?_)
            | (refine op_skip rfl rfl (by simp [undef]) rfl ?_)
          first | refine op_v (v_pickt rfl rfl) rfl ?_ | refine op_v (v_pickf rfl rfl) rfl ?_ | refine op_v (v_pickb rfl rfl rfl) rfl ?_
          refine ops_nil ?_
          refine post_next ?_
          refine code_cond_t rfl ?_
          refine code_seq ?_
          refine code_region ?_
          refine op_v (v_assign rfl) rfl ?_
          refine ops_nil ?_
          refine post_next ?_
          refine code_ret ?_
          refine post_ret_then ?_
          refine post_ret (rs := [.tmp 2]) rfl (List.Perm.refl _) (.cons (.tmp rfl) .nil) (List.nil_sublist _) ?_
          exact ⟨by rw [hbn (badN_iff.2 (.inr (.inr (.inl h21))))]; rfl, rfl⟩
        · first
            | (refine op_want rfl rfl ?_
               first | refine op_v (v_cmptA rfl rfl rfl) rfl ?_ | refine op_v (v_cmpfA rfl rfl rfl) rfl ?_ | refine op_v (v_cmp rfl rfl rfl) rfl ?_)
            | (refine op_skip rfl rfl (by simp [undef]) rfl ?_)
          first | refine op_v (v_pickt rfl rfl) rfl ?_ | refine op_v (v_pickf rfl rfl) rfl ?_ | refine op_v (v_pickb rfl rfl rfl) rfl ?_
          refine op_v (v_move rfl) rfl ?_
          first
            | (refine op_want rfl rfl ?_
               first | refine op_v (v_fieldB 1 Try.underlying25 rfl rfl fz23 rfl) rfl ?_ | refine op_v (v_fieldI 1 Try.underlying25 rfl rfl fz23 rfl (by assumption)) rfl ?_ | refine op_v (v_field Try.underlying25 rfl fz23 rfl rfl) rfl ?_)
            | (refine op_skip rfl rfl (by simp [undef]) rfl ?_)
          first
            | (refine op_want rfl rfl ?_
               refine op_v (v_loadA ty23 rfl rfl) rfl ?_)
            | (refine op_skip rfl rfl (by simp [undef]) rfl ?_)
          first
            | (refine op_want rfl rfl ?_
               refine op_v (v_len Try.underlying23 rfl) rfl ?_)
            | (refine op_skip rfl rfl (by simp [undef]) rfl ?_)
          by_cases h27 : 8 < ts.length
          · first
              | (refine op_want rfl rfl ?_
                 first | refine op_v (v_cmptA rfl rfl rfl) rfl ?_ | refine op_v (v_cmpfA rfl rfl rfl) rfl ?_ | refine op_v (v_cmp rfl rfl rfl) rfl ?_)
              | (refine op_skip rfl rfl (by simp [undef]) rfl ?_)
            first | refine op_v (v_pickt rfl rfl) rfl ?_ | refine op_v (v_pickf rfl rfl) rfl ?_ | refine op_v (v_pickb rfl rfl rfl) rfl ?_
            refine ops_nil ?_
            refine post_next ?_
            refine code_cond_t rfl ?_
            refine code_seq ?_
            refine code_region ?_
            refine op_v (v_assign rfl) rfl ?_
            refine ops_nil ?_
            refine post_next ?_
            refine code_ret ?_
            refine post_ret_then ?_
            refine post_ret (rs := [.tmp 2]) rfl (List.Perm.refl _) (.cons (.tmp rfl) .nil) (List.nil_sublist _) ?_
            exact ⟨by rw [hbn (badN_iff.2 (.inr (.inr (.inr h27))))]; rfl, rfl⟩
          · have hno : badN (1, .mk h ts) = false := by { cases hq : badN (1, .mk h ts); rfl; rw [badN_iff] at hq; omega }
            first
              | (refine op_want rfl rfl ?_
                 first | refine op_v (v_cmptA rfl rfl rfl) rfl ?_ | refine op_v (v_cmpfA rfl rfl rfl) rfl ?_ | refine op_v (v_cmp rfl rfl rfl) rfl ?_)
              | (refine op_skip rfl rfl (by simp [undef]) rfl ?_)
            first | refine op_v (v_pickt rfl rfl) rfl ?_ | refine op_v (v_pickf rfl rfl) rfl ?_ | refine op_v (v_pickb rfl rfl rfl) rfl ?_
            refine ops_nil ?_
            refine post_next ?_
            refine code_cond_f rfl ?_
            refine code_skip ?_
            refine post_next ?_
            refine code_seq ?_
            refine code_seq ?_
            refine code_region ?_
            refine op_v (v_assign rfl) rfl ?_
            refine ops_nil ?_
            refine post_next ?_
            refine code_block ?_
            refine code_loop (fun m σ' I' δ' => ∃ k : Nat, m = ts.length - k ∧ k ≤ ts.length ∧ σ' = [(1, .pointer (some ⟨b1, 0, none⟩)), (3, .int .i64 k)] ∧ I.le I' ∧ δ' = [.box b1 25 [.int .i64 h, .slice ad ts.length c]] ∧ ∀ i (h : i < ts.length), i < k → badT ts[i] = false) ts.length [(1, .pointer (some ⟨b1, 0, none⟩)), (3, .int .i64 (0 : Nat))] ⟨0, rfl, Nat.zero_le _, rfl, Imm.le_refl _, rfl, fun i _ h => by omega⟩ ⟨rfl, rfl, trivial⟩ ?_
            rintro m _ I0 _ ⟨k, rfl, hk, rfl, hI0, rfl, hp⟩
            refine code_seq ?_
            refine code_seq ?_
            refine code_region ?_
            refine op_v (v_move rfl) rfl ?_
            first | refine op_v (v_fieldB 1 Try.underlying25 rfl rfl fz23 rfl) rfl ?_ | refine op_v (v_fieldI 1 Try.underlying25 rfl rfl fz23 rfl (by assumption)) rfl ?_ | refine op_v (v_field Try.underlying25 rfl fz23 rfl rfl) rfl ?_
            refine op_v (v_loadA ty23 rfl rfl) rfl ?_
            refine op_v (v_len Try.underlying23 rfl) rfl ?_
            first | refine op_v (v_cmptA rfl rfl rfl) rfl ?_ | refine op_v (v_cmpfA rfl rfl rfl) rfl ?_ | refine op_v (v_cmp rfl rfl rfl) rfl ?_
            refine ops_nil ?_
            refine post_next ?_
            refine code_cond rfl (fun hc1 => ?_) (fun hc1 => ?_)
            · have hlt : k < ts.length := by simpa using hc1
              have hs1 := (hat k hlt).isSome
              have hm := sizeL_mem ts k hlt
              refine code_skip ?_
              refine post_next ?_
              refine code_seq ?_
              refine code_block ?_
              refine code_seq ?_
              refine code_region ?_
              first | refine op_v (v_fieldB 1 Try.underlying25 rfl rfl fz23 rfl) rfl ?_ | refine op_v (v_fieldI 1 Try.underlying25 rfl rfl fz23 rfl (by assumption)) rfl ?_ | refine op_v (v_field Try.underlying25 rfl fz23 rfl rfl) rfl ?_
              refine op_v (v_loadA ty23 rfl rfl) rfl ?_
              refine op_v (v_move rfl) rfl ?_
              first | refine op_v (v_indexA Try.underlying23 sz25 rfl rfl) rfl ?_ | refine op_v (v_indexIA Try.underlying23 sz25 rfl rfl) rfl ?_
              first | refine op_v (v_loadI0 ty25 ((hat k hlt).mono hI0) rfl rfl rfl) rfl ?_ | refine op_v (v_loadI ty25 ((hat k hlt).mono hI0) rfl rfl rfl) rfl ?_
              refine op_call pl125 rfl rfl ((ih ts[k] (by omega) _ _ ((hsub k hlt).mono hI0))) Parts.none ?_
              rintro _ I41 _ hI41 ⟨rfl, rfl⟩
              by_cases h42 : badT ts[k] = true
              · rw [h42]
                refine op_v (v_not rfl) rfl ?_
                refine ops_nil ?_
                refine post_next ?_
                refine code_cond_t rfl ?_
                refine code_seq ?_
                refine code_region ?_
                refine op_v (v_assign rfl) rfl ?_
                refine ops_nil ?_
                refine post_next ?_
                refine code_ret ?_
                refine post_ret_block ?_
                refine post_ret_then ?_
                refine post_ret_then ?_
                refine post_ret_block ?_
                refine post_ret_then ?_
                refine post_ret (rs := [.tmp 2]) rfl (List.Perm.refl _) (.cons (.tmp rfl) .nil) (List.nil_sublist _) ?_
                exact ⟨by rw [badT_eq, any_at_true k hlt h42]; simp [outV], rfl⟩
              · have h42' : badT ts[k] = false := by simpa using h42
                rw [h42']
                refine op_v (v_not rfl) rfl ?_
                refine ops_nil ?_
                refine post_next ?_
                refine code_cond_f rfl ?_
                refine code_skip ?_
                refine post_out ?_
                refine post_next ?_
                refine code_region ?_
                refine op_v (v_move rfl) rfl ?_
                first | refine op_v (v_addb rfl rfl rfl (by omega)) rfl ?_ | refine op_v (v_add rfl rfl) rfl ?_
                refine op_v (v_assign rfl) rfl ?_
                refine ops_nil ?_
                refine post_again (ts.length - (k + 1)) [(1, .pointer (some ⟨b1, 0, none⟩)), (3, .int .i64 ((k + 1 : Nat) : Int))] (by omega) ⟨k + 1, rfl, hlt, rfl, Imm.le_trans hI0 hI41, rfl, ?_⟩ ⟨rfl, rfl, trivial⟩
                intro i h hi
                rcases Nat.lt_or_ge i k with hik | hik
                · exact hp i h hik
                have hik2 : i = k := by omega
                subst hik2
                exact h42'
            · have hge : k = ts.length := by simp at hc1; omega
              refine code_exit ?_
              refine post_exit_then ?_
              refine post_exit_then ?_
              refine post_exit ?_
              refine post_next ?_
              refine code_seq ?_
              refine code_region ?_
              refine op_v (v_assign rfl) rfl ?_
              refine ops_nil ?_
              refine post_next ?_
              refine code_ret ?_
              refine post_ret (rs := [.tmp 2]) rfl (List.Perm.refl _) (.cons (.tmp rfl) .nil) (List.nil_sublist _) ?_
              exact ⟨by rw [badT_eq, any_all_false (fun i hi => hp i hi (by omega)), hno]; rfl, rfl⟩
theorem RCheck_does {I : Imm} {v : Value} {t : T} (hv : RepT I v t) (hbig : t.size ≤ 1000000000) :
    Does Try.prog 93 [v] I [] (fun v I' δ' => v = .int .i64 (chkT t) ∧ δ' = []) := by
  have hd := depT_size t
  obtain ⟨a0, c0, rfl, hr0⟩ := hv.shape
  refine Does.intro Try.func93 rfl Try.ntmps93 rfl fun w0 => ?_
  refine code_seq ?_
  refine code_region ?_
  refine o_box rfl rfl rfl (fun b1 => ?_)
  refine op_v (v_assign rfl) rfl ?_
  refine ops_nil ?_
  refine post_next ?_
  refine code_seq ?_
  refine code_seq ?_
  refine code_region ?_
  refine op_v (v_loadA ty25 rfl rfl) rfl ?_
  refine op_call pl122 rfl rfl ((Size_does _ _ (Nat.le_refl _) hbig _ _ (hv.mono Imm.leA))) Parts.none ?_
  rintro _ I4 _ hI4 ⟨rfl, rfl⟩
  by_cases h5 : 400 < t.size
  · first | refine op_v (v_cmptA rfl rfl rfl) rfl ?_ | refine op_v (v_cmpfA rfl rfl rfl) rfl ?_ | refine op_v (v_cmp rfl rfl rfl) rfl ?_
    refine ops_nil ?_
    refine post_next ?_
    refine code_cond_t rfl ?_
    refine code_seq ?_
    refine code_region ?_
    refine op_v (v_assign rfl) rfl ?_
    refine ops_nil ?_
    refine post_next ?_
    refine code_ret ?_
    refine post_ret_then ?_
    refine post_ret (rs := [.tmp 2]) rfl (List.Perm.refl _) (.cons (.tmp rfl) .nil) (List.nil_sublist _) ?_
    exact ⟨by unfold chkT; rw [if_pos h5]; rfl, rfl⟩
  · first | refine op_v (v_cmptA rfl rfl rfl) rfl ?_ | refine op_v (v_cmpfA rfl rfl rfl) rfl ?_ | refine op_v (v_cmp rfl rfl rfl) rfl ?_
    refine ops_nil ?_
    refine post_next ?_
    refine code_cond_f rfl ?_
    refine code_skip ?_
    refine post_next ?_
    refine code_seq ?_
    refine code_seq ?_
    refine code_region ?_
    refine op_v (v_loadA ty25 rfl rfl) rfl ?_
    refine op_call pl124 rfl rfl ((Depth_does _ _ (Nat.le_refl _) hbig _ _ (hv.mono Imm.leA))) Parts.none ?_
    rintro _ I7 _ hI7 ⟨rfl, rfl⟩
    by_cases h8 : 40 < depT t
    · first | refine op_v (v_cmptA rfl rfl rfl) rfl ?_ | refine op_v (v_cmpfA rfl rfl rfl) rfl ?_ | refine op_v (v_cmp rfl rfl rfl) rfl ?_
      refine ops_nil ?_
      refine post_next ?_
      refine code_cond_t rfl ?_
      refine code_seq ?_
      refine code_region ?_
      refine op_v (v_assign rfl) rfl ?_
      refine ops_nil ?_
      refine post_next ?_
      refine code_ret ?_
      refine post_ret_then ?_
      refine post_ret (rs := [.tmp 2]) rfl (List.Perm.refl _) (.cons (.tmp rfl) .nil) (List.nil_sublist _) ?_
      exact ⟨by unfold chkT; rw [if_neg h5, if_pos h8]; rfl, rfl⟩
    · first | refine op_v (v_cmptA rfl rfl rfl) rfl ?_ | refine op_v (v_cmpfA rfl rfl rfl) rfl ?_ | refine op_v (v_cmp rfl rfl rfl) rfl ?_
      refine ops_nil ?_
      refine post_next ?_
      refine code_cond_f rfl ?_
      refine code_skip ?_
      refine post_next ?_
      refine code_seq ?_
      refine code_seq ?_
      refine code_region ?_
      refine op_v (v_loadA ty25 rfl rfl) rfl ?_
      refine op_call pl125 rfl rfl ((good_does _ _ (Nat.le_refl _) _ _ (hv.mono Imm.leA))) Parts.none ?_
      rintro _ I10 _ hI10 ⟨rfl, rfl⟩
      by_cases h11 : badT t = true
      · rw [h11]
        refine op_v (v_not rfl) rfl ?_
        refine ops_nil ?_
        refine post_next ?_
        refine code_cond_t rfl ?_
        refine code_seq ?_
        refine code_region ?_
        refine op_v (v_assign rfl) rfl ?_
        refine ops_nil ?_
        refine post_next ?_
        refine code_ret ?_
        refine post_ret_then ?_
        refine post_ret (rs := [.tmp 2]) rfl (List.Perm.refl _) (.cons (.tmp rfl) .nil) (List.nil_sublist _) ?_
        exact ⟨by unfold chkT; rw [if_neg h5, if_neg h8, if_pos (show (partsT 1 t).any badN = true from h11)]; rfl, rfl⟩
      · have h11' : badT t = false := by simpa using h11
        rw [h11']
        refine op_v (v_not rfl) rfl ?_
        refine ops_nil ?_
        refine post_next ?_
        refine code_cond_f rfl ?_
        refine code_skip ?_
        refine post_next ?_
        refine code_seq ?_
        refine code_region ?_
        refine op_v (v_assign rfl) rfl ?_
        refine ops_nil ?_
        refine post_next ?_
        refine code_ret ?_
        refine post_ret (rs := [.tmp 2]) rfl (List.Perm.refl _) (.cons (.tmp rfl) .nil) (List.nil_sublist _) ?_
        exact ⟨by unfold chkT; rw [if_neg h5, if_neg h8, if_neg (show ¬ (partsT 1 t).any badN = true by { rw [show (partsT 1 t).any badN = false from h11']; simp })]; rfl, rfl⟩
theorem known_does {gs : List Sy} : ∀ (n : Nat) (t : T), t.size ≤ n → chkT t = 0 → ∀ (I : Imm) (vg v : Value), RepG I vg gs → RepT I v t →
    Does Try.prog 94 [vg, v] I [] (fun v I' δ' => v = .bool (!unkG gs t) ∧ δ' = []) := by
  intro n
  induction n with
  | zero => intro t ht; have := t.size_pos; omega
  | succ n ih =>
    intro t ht hck I vg v hg hv
    obtain ⟨h, ts⟩ := t
    obtain ⟨ga, gc, rfl⟩ := hg.shape
    obtain ⟨_, hgc, hgb, hgat, hgok⟩ := hg.open
    obtain ⟨ad, c, ss, rfl, hr, hc, hb, hat, hsub⟩ := hv.elim
    have hsz : (T.mk h ts).size = 1 + sizeL ts := by simp [T.size]
    obtain ⟨hlf, hch⟩ := chkT_args hck
    have hun : unkB gs (true, .mk h ts) = true → unkG gs (.mk h ts) = true := fun q => by rw [unkG_eq, q]; rfl
    refine Does.intro Try.func94 rfl Try.ntmps94 rfl fun w0 => ?_
    refine code_seq ?_
    refine code_region ?_
    refine o_box rfl rfl rfl (fun b3 => ?_)
    refine op_v (v_assign rfl) rfl ?_
    refine ops_nil ?_
    refine post_next ?_
    refine code_seq ?_
    refine code_seq ?_
    refine code_region ?_
    first | refine op_v (v_fieldB 0 Try.underlying25 rfl rfl fz3 rfl) rfl ?_ | refine op_v (v_fieldI 0 Try.underlying25 rfl rfl fz3 rfl (by assumption)) rfl ?_ | refine op_v (v_field Try.underlying25 rfl fz3 rfl rfl) rfl ?_
    refine op_v (v_loadA ty3 rfl rfl) rfl ?_
    by_cases h8 : h < 0
    · first | refine op_v (v_cmptA rfl rfl rfl) rfl ?_ | refine op_v (v_cmpfA rfl rfl rfl) rfl ?_ | refine op_v (v_cmp rfl rfl rfl) rfl ?_
      refine ops_nil ?_
      refine post_next ?_
      refine code_cond_t rfl ?_
      refine code_seq ?_
      refine code_region ?_
      refine op_v (v_assign rfl) rfl ?_
      refine ops_nil ?_
      refine post_next ?_
      refine code_ret ?_
      refine post_ret_then ?_
      refine post_ret (rs := [.tmp 4]) rfl (List.Perm.refl _) (.cons (.tmp rfl) .nil) (List.nil_sublist _) ?_
      have hl := hlf h8
      subst hl
      have : unkG gs (.mk h []) = false := by { rw [unkG_eq]; have : ¬ 0 ≤ h := by { omega }; simp [unkB, T.head, T.args, this] }
      exact ⟨by rw [this]; rfl, rfl⟩
    · first | refine op_v (v_cmptA rfl rfl rfl) rfl ?_ | refine op_v (v_cmpfA rfl rfl rfl) rfl ?_ | refine op_v (v_cmp rfl rfl rfl) rfl ?_
      refine ops_nil ?_
      refine post_next ?_
      refine code_cond_f rfl ?_
      refine code_skip ?_
      refine post_next ?_
      refine code_seq ?_
      refine code_seq ?_
      refine code_draw (.fl 0 (.fl 1 (.fl 2 (.fl 3 (.fl 4 (.fl 5 (.fl 6 (.fl 7 (.fl 8 (.fl 9 (.fl 10 (.fl 11 (.fl 12 (.fl 13 (.fl 14 (.fl 15 (.fl 16 .done))))))))))))))))) (fun _ => _) mixed (by kernel_rfl) (by kernel_rfl) (fun _ => (List.Sublist.refl _)) ?_
      first | refine e_fl rfl rfl (fun hs_ => PF.mk rfl (v_fieldB 0 Try.underlying25 rfl rfl fz3 rfl) hs_) ?_ | refine e_fl rfl rfl (fun hs_ => PF.mk rfl (v_fieldI 0 Try.underlying25 rfl rfl fz3 rfl (by assumption)) hs_) ?_ | refine e_fl rfl rfl (fun hs_ => PF.mk rfl (v_field Try.underlying25 rfl fz3 rfl rfl) hs_) ?_
      refine e_fl rfl rfl (fun hs_ => PF.mk rfl (v_loadA ty3 rfl rfl) hs_) ?_
      refine e_fl rfl rfl (fun hs_ => PF.mk rfl (v_move rfl) hs_) ?_
      refine e_fl rfl rfl (fun hs_ => PF.mk rfl (v_len Try.underlying22 rfl) hs_) ?_
      by_cases h13 : (gs.length : Int) ≤ h
      · first | refine e_fl rfl rfl (fun hs_ => PF.mk rfl (v_cmptA rfl rfl rfl) hs_) ?_ | refine e_fl rfl rfl (fun hs_ => PF.mk rfl (v_cmpfA rfl rfl rfl) hs_) ?_ | refine e_fl rfl rfl (fun hs_ => PF.mk rfl (v_cmp rfl rfl rfl) hs_) ?_
        refine e_fl rfl rfl (fun hs_ => PF.mk rfl (v_move rfl) hs_) ?_
        first | refine e_fl rfl rfl (fun hs_ => PF.mkg rfl rfl rfl (v_fieldB 1 Try.underlying25 rfl rfl fz23 rfl) hs_) ?_ | refine e_fl rfl rfl (fun hs_ => PF.mkg rfl rfl rfl (v_fieldI 1 Try.underlying25 rfl rfl fz23 rfl (by assumption)) hs_) ?_ | refine e_fl rfl rfl (fun hs_ => PF.mkg rfl rfl rfl (v_field Try.underlying25 rfl fz23 rfl rfl) hs_) ?_ | refine e_fl rfl rfl (fun hs_ => PF.mks rfl (by intro c hc; cases hc) rfl rfl (by simp [undef]) hs_) ?_
        first | refine e_fl rfl rfl (fun hs_ => PF.mkg rfl rfl rfl (v_loadA ty23 rfl rfl) hs_) ?_ | refine e_fl rfl rfl (fun hs_ => PF.mks rfl (by intro c hc; cases hc) rfl rfl (by simp [undef]) hs_) ?_
        first | refine e_fl rfl rfl (fun hs_ => PF.mkg rfl rfl rfl (v_len Try.underlying23 rfl) hs_) ?_ | refine e_fl rfl rfl (fun hs_ => PF.mks rfl (by intro c hc; cases hc) rfl rfl (by simp [undef]) hs_) ?_
        first | refine e_fl rfl rfl (fun hs_ => PF.mkg rfl rfl rfl (v_move rfl) hs_) ?_ | refine e_fl rfl rfl (fun hs_ => PF.mks rfl (by intro c hc; cases hc) rfl rfl (by simp [undef]) hs_) ?_
        first | refine e_fl rfl rfl (fun hs_ => PF.mkg rfl rfl rfl (v_fieldB 0 Try.underlying25 rfl rfl fz3 rfl) hs_) ?_ | refine e_fl rfl rfl (fun hs_ => PF.mkg rfl rfl rfl (v_fieldI 0 Try.underlying25 rfl rfl fz3 rfl (by assumption)) hs_) ?_ | refine e_fl rfl rfl (fun hs_ => PF.mkg rfl rfl rfl (v_field Try.underlying25 rfl fz3 rfl rfl) hs_) ?_ | refine e_fl rfl rfl (fun hs_ => PF.mks rfl (by intro c hc; cases hc) rfl rfl (by simp [undef]) hs_) ?_
        first | refine e_fl rfl rfl (fun hs_ => PF.mkg rfl rfl rfl (v_loadA ty3 rfl rfl) hs_) ?_ | refine e_fl rfl rfl (fun hs_ => PF.mks rfl (by intro c hc; cases hc) rfl rfl (by simp [undef]) hs_) ?_
        first | refine e_fl rfl rfl (fun hs_ => PF.mkg rfl rfl rfl (v_indexA Try.underlying22 sz71 rfl rfl) hs_) ?_ | refine e_fl rfl rfl (fun hs_ => PF.mkg rfl rfl rfl (v_indexIA Try.underlying22 sz71 rfl rfl) hs_) ?_ | refine e_fl rfl rfl (fun hs_ => PF.mks rfl (by intro c hc; cases hc) rfl rfl (by simp [undef]) hs_) ?_
        first | refine e_fl rfl rfl (fun hs_ => PF.mkg rfl rfl rfl (v_fieldB 1 Try.underlying71 rfl rfl fz3 rfl) hs_) ?_ | refine e_fl rfl rfl (fun hs_ => PF.mkg rfl rfl rfl (v_fieldI 1 Try.underlying71 rfl rfl fz3 rfl (by assumption)) hs_) ?_ | refine e_fl rfl rfl (fun hs_ => PF.mkg rfl rfl rfl (v_field Try.underlying71 rfl fz3 rfl rfl) hs_) ?_ | refine e_fl rfl rfl (fun hs_ => PF.mks rfl (by intro c hc; cases hc) rfl rfl (by simp [undef]) hs_) ?_
        first | refine e_fl rfl rfl (fun hs_ => PF.mkg rfl rfl rfl (v_loadI0 ty3 (hgat _ hlt0) rfl rfl rfl) hs_) ?_ | refine e_fl rfl rfl (fun hs_ => PF.mkg rfl rfl rfl (v_loadI ty3 (hgat _ hlt0) rfl rfl rfl) hs_) ?_ | refine e_fl rfl rfl (fun hs_ => PF.mks rfl (by intro c hc; cases hc) rfl rfl (by simp [undef]) hs_) ?_
        first | refine e_fl rfl rfl (fun hs_ => PF.mkg rfl rfl rfl (v_cmptA rfl rfl rfl) hs_) ?_ | refine e_fl rfl rfl (fun hs_ => PF.mkg rfl rfl rfl (v_cmpfA rfl rfl rfl) hs_) ?_ | refine e_fl rfl rfl (fun hs_ => PF.mkg rfl rfl rfl (v_cmp rfl rfl rfl) hs_) ?_ | refine e_fl rfl rfl (fun hs_ => PF.mks rfl (by intro c hc; cases hc) rfl rfl (by simp [undef]) hs_) ?_
        first | refine e_fl rfl rfl (fun hs_ => PF.mk rfl (v_pickt rfl rfl) hs_) ?_ | refine e_fl rfl rfl (fun hs_ => PF.mk rfl (v_pickf rfl rfl) hs_) ?_ | refine e_fl rfl rfl (fun hs_ => PF.mk rfl (v_pickb rfl rfl rfl) hs_) ?_
        refine e_done ?_
        refine post_next ?_
        refine code_cond_t rfl ?_
        refine code_seq ?_
        refine code_region ?_
        refine op_v (v_assign rfl) rfl ?_
        refine ops_nil ?_
        refine post_next ?_
        refine code_ret ?_
        refine post_ret_then ?_
        refine post_ret (rs := [.tmp 4]) rfl (List.Perm.refl _) (.cons (.tmp rfl) .nil) (List.nil_sublist _) ?_
        exact ⟨by rw [hun (unkB_iff.2 ⟨by omega, .inl h13⟩)]; rfl, rfl⟩
      · have hlt0 : h.toNat < gs.length := by omega
        have hs0 := (hgat _ hlt0).isSome
        have hgat1 : ∀ J, I.le J → At J ga (h.toNat * 4) [.string gs[h.toNat].name, .int .i64 gs[h.toNat].ar, .int .i64 gs[h.toNat].wt, .bool gs[h.toNat].tr] := fun J hJ => (hgat _ hlt0).mono hJ
        first | refine e_fl rfl rfl (fun hs_ => PF.mk rfl (v_cmptA rfl rfl rfl) hs_) ?_ | refine e_fl rfl rfl (fun hs_ => PF.mk rfl (v_cmpfA rfl rfl rfl) hs_) ?_ | refine e_fl rfl rfl (fun hs_ => PF.mk rfl (v_cmp rfl rfl rfl) hs_) ?_
        refine e_fl rfl rfl (fun hs_ => PF.mk rfl (v_move rfl) hs_) ?_
        first | refine e_fl rfl rfl (fun hs_ => PF.mkg rfl rfl rfl (v_fieldB 1 Try.underlying25 rfl rfl fz23 rfl) hs_) ?_ | refine e_fl rfl rfl (fun hs_ => PF.mkg rfl rfl rfl (v_fieldI 1 Try.underlying25 rfl rfl fz23 rfl (by assumption)) hs_) ?_ | refine e_fl rfl rfl (fun hs_ => PF.mkg rfl rfl rfl (v_field Try.underlying25 rfl fz23 rfl rfl) hs_) ?_ | refine e_fl rfl rfl (fun hs_ => PF.mks rfl (by intro c hc; cases hc) rfl rfl (by simp [undef]) hs_) ?_
        first | refine e_fl rfl rfl (fun hs_ => PF.mkg rfl rfl rfl (v_loadA ty23 rfl rfl) hs_) ?_ | refine e_fl rfl rfl (fun hs_ => PF.mks rfl (by intro c hc; cases hc) rfl rfl (by simp [undef]) hs_) ?_
        first | refine e_fl rfl rfl (fun hs_ => PF.mkg rfl rfl rfl (v_len Try.underlying23 rfl) hs_) ?_ | refine e_fl rfl rfl (fun hs_ => PF.mks rfl (by intro c hc; cases hc) rfl rfl (by simp [undef]) hs_) ?_
        first | refine e_fl rfl rfl (fun hs_ => PF.mkg rfl rfl rfl (v_move rfl) hs_) ?_ | refine e_fl rfl rfl (fun hs_ => PF.mks rfl (by intro c hc; cases hc) rfl rfl (by simp [undef]) hs_) ?_
        first | refine e_fl rfl rfl (fun hs_ => PF.mkg rfl rfl rfl (v_fieldB 0 Try.underlying25 rfl rfl fz3 rfl) hs_) ?_ | refine e_fl rfl rfl (fun hs_ => PF.mkg rfl rfl rfl (v_fieldI 0 Try.underlying25 rfl rfl fz3 rfl (by assumption)) hs_) ?_ | refine e_fl rfl rfl (fun hs_ => PF.mkg rfl rfl rfl (v_field Try.underlying25 rfl fz3 rfl rfl) hs_) ?_ | refine e_fl rfl rfl (fun hs_ => PF.mks rfl (by intro c hc; cases hc) rfl rfl (by simp [undef]) hs_) ?_
        first | refine e_fl rfl rfl (fun hs_ => PF.mkg rfl rfl rfl (v_loadA ty3 rfl rfl) hs_) ?_ | refine e_fl rfl rfl (fun hs_ => PF.mks rfl (by intro c hc; cases hc) rfl rfl (by simp [undef]) hs_) ?_
        first | refine e_fl rfl rfl (fun hs_ => PF.mkg rfl rfl rfl (v_indexA Try.underlying22 sz71 rfl rfl) hs_) ?_ | refine e_fl rfl rfl (fun hs_ => PF.mkg rfl rfl rfl (v_indexIA Try.underlying22 sz71 rfl rfl) hs_) ?_ | refine e_fl rfl rfl (fun hs_ => PF.mks rfl (by intro c hc; cases hc) rfl rfl (by simp [undef]) hs_) ?_
        first | refine e_fl rfl rfl (fun hs_ => PF.mkg rfl rfl rfl (v_fieldB 1 Try.underlying71 rfl rfl fz3 rfl) hs_) ?_ | refine e_fl rfl rfl (fun hs_ => PF.mkg rfl rfl rfl (v_fieldI 1 Try.underlying71 rfl rfl fz3 rfl (by assumption)) hs_) ?_ | refine e_fl rfl rfl (fun hs_ => PF.mkg rfl rfl rfl (v_field Try.underlying71 rfl fz3 rfl rfl) hs_) ?_ | refine e_fl rfl rfl (fun hs_ => PF.mks rfl (by intro c hc; cases hc) rfl rfl (by simp [undef]) hs_) ?_
        first | refine e_fl rfl rfl (fun hs_ => PF.mkg rfl rfl rfl (v_loadI0 ty3 (hgat _ hlt0) rfl rfl rfl) hs_) ?_ | refine e_fl rfl rfl (fun hs_ => PF.mkg rfl rfl rfl (v_loadI ty3 (hgat _ hlt0) rfl rfl rfl) hs_) ?_ | refine e_fl rfl rfl (fun hs_ => PF.mks rfl (by intro c hc; cases hc) rfl rfl (by simp [undef]) hs_) ?_
        by_cases h24 : (ts.length : Int) ≠ (gs[h.toNat]'hlt0).ar
        · first | refine e_fl rfl rfl (fun hs_ => PF.mkg rfl rfl rfl (v_cmptA rfl rfl rfl) hs_) ?_ | refine e_fl rfl rfl (fun hs_ => PF.mkg rfl rfl rfl (v_cmpfA rfl rfl rfl) hs_) ?_ | refine e_fl rfl rfl (fun hs_ => PF.mkg rfl rfl rfl (v_cmp rfl rfl rfl) hs_) ?_ | refine e_fl rfl rfl (fun hs_ => PF.mks rfl (by intro c hc; cases hc) rfl rfl (by simp [undef]) hs_) ?_
          first | refine e_fl rfl rfl (fun hs_ => PF.mk rfl (v_pickt rfl rfl) hs_) ?_ | refine e_fl rfl rfl (fun hs_ => PF.mk rfl (v_pickf rfl rfl) hs_) ?_ | refine e_fl rfl rfl (fun hs_ => PF.mk rfl (v_pickb rfl rfl rfl) hs_) ?_
          refine e_done ?_
          refine post_next ?_
          refine code_cond_t rfl ?_
          refine code_seq ?_
          refine code_region ?_
          refine op_v (v_assign rfl) rfl ?_
          refine ops_nil ?_
          refine post_next ?_
          refine code_ret ?_
          refine post_ret_then ?_
          refine post_ret (rs := [.tmp 4]) rfl (List.Perm.refl _) (.cons (.tmp rfl) .nil) (List.nil_sublist _) ?_
          exact ⟨by rw [hun (unkB_iff.2 ⟨by omega, .inr (by rw [arG_at (gs := gs) (h := h) (by omega) (by omega)]; exact h24)⟩)]; rfl, rfl⟩
        · have hno : unkB gs (true, .mk h ts) = false := by { cases hq : unkB gs (true, .mk h ts); rfl; rw [unkB_iff] at hq; rw [arG_at (gs := gs) (h := h) (by omega) (by omega)] at hq; omega }
          first | refine e_fl rfl rfl (fun hs_ => PF.mkg rfl rfl rfl (v_cmptA rfl rfl rfl) hs_) ?_ | refine e_fl rfl rfl (fun hs_ => PF.mkg rfl rfl rfl (v_cmpfA rfl rfl rfl) hs_) ?_ | refine e_fl rfl rfl (fun hs_ => PF.mkg rfl rfl rfl (v_cmp rfl rfl rfl) hs_) ?_ | refine e_fl rfl rfl (fun hs_ => PF.mks rfl (by intro c hc; cases hc) rfl rfl (by simp [undef]) hs_) ?_
          first | refine e_fl rfl rfl (fun hs_ => PF.mk rfl (v_pickt rfl rfl) hs_) ?_ | refine e_fl rfl rfl (fun hs_ => PF.mk rfl (v_pickf rfl rfl) hs_) ?_ | refine e_fl rfl rfl (fun hs_ => PF.mk rfl (v_pickb rfl rfl rfl) hs_) ?_
          refine e_done ?_
          refine post_next ?_
          refine code_cond_f rfl ?_
          refine code_skip ?_
          refine post_next ?_
          refine code_seq ?_
          refine code_seq ?_
          refine code_region ?_
          refine op_v (v_assign rfl) rfl ?_
          refine ops_nil ?_
          refine post_next ?_
          refine code_block ?_
          refine code_loop (fun m σ' I' δ' => ∃ k : Nat, m = ts.length - k ∧ k ≤ ts.length ∧ σ' = [(0, .slice ga gs.length gc), (3, .pointer (some ⟨b3, 0, none⟩)), (5, .int .i64 k)] ∧ I.le I' ∧ δ' = [.box b3 25 [.int .i64 h, .slice ad ts.length c]] ∧ ∀ i (h : i < ts.length), i < k → unkG gs ts[i] = false) ts.length [(0, .slice ga gs.length gc), (3, .pointer (some ⟨b3, 0, none⟩)), (5, .int .i64 (0 : Nat))] ⟨0, rfl, Nat.zero_le _, rfl, Imm.le_refl _, rfl, fun i _ h => by omega⟩ ⟨rfl, rfl, rfl, trivial⟩ ?_
          rintro m _ I0 _ ⟨k, rfl, hk, rfl, hI0, rfl, hp⟩
          refine code_seq ?_
          refine code_seq ?_
          refine code_region ?_
          refine op_v (v_move rfl) rfl ?_
          first | refine op_v (v_fieldB 1 Try.underlying25 rfl rfl fz23 rfl) rfl ?_ | refine op_v (v_fieldI 1 Try.underlying25 rfl rfl fz23 rfl (by assumption)) rfl ?_ | refine op_v (v_field Try.underlying25 rfl fz23 rfl rfl) rfl ?_
          refine op_v (v_loadA ty23 rfl rfl) rfl ?_
          refine op_v (v_len Try.underlying23 rfl) rfl ?_
          first | refine op_v (v_cmptA rfl rfl rfl) rfl ?_ | refine op_v (v_cmpfA rfl rfl rfl) rfl ?_ | refine op_v (v_cmp rfl rfl rfl) rfl ?_
          refine ops_nil ?_
          refine post_next ?_
          refine code_cond rfl (fun hc2 => ?_) (fun hc2 => ?_)
          · have hlt : k < ts.length := by simpa using hc2
            have hs1 := (hat k hlt).isSome
            have hm := sizeL_mem ts k hlt
            refine code_skip ?_
            refine post_next ?_
            refine code_seq ?_
            refine code_block ?_
            refine code_seq ?_
            refine code_region ?_
            refine op_v (v_move rfl) rfl ?_
            first | refine op_v (v_fieldB 1 Try.underlying25 rfl rfl fz23 rfl) rfl ?_ | refine op_v (v_fieldI 1 Try.underlying25 rfl rfl fz23 rfl (by assumption)) rfl ?_ | refine op_v (v_field Try.underlying25 rfl fz23 rfl rfl) rfl ?_
            refine op_v (v_loadA ty23 rfl rfl) rfl ?_
            refine op_v (v_move rfl) rfl ?_
            first | refine op_v (v_indexA Try.underlying23 sz25 rfl rfl) rfl ?_ | refine op_v (v_indexIA Try.underlying23 sz25 rfl rfl) rfl ?_
            first | refine op_v (v_loadI0 ty25 ((hat k hlt).mono hI0) rfl rfl rfl) rfl ?_ | refine op_v (v_loadI ty25 ((hat k hlt).mono hI0) rfl rfl rfl) rfl ?_
            refine op_call pl94 rfl rfl ((ih ts[k] (by omega) (hch k hlt) _ _ _ (hg.mono hI0) ((hsub k hlt).mono hI0))) Parts.none ?_
            rintro _ I39 _ hI39 ⟨rfl, rfl⟩
            by_cases h40 : unkG gs ts[k] = true
            · rw [h40]
              refine op_v (v_not rfl) rfl ?_
              refine ops_nil ?_
              refine post_next ?_
              refine code_cond_t rfl ?_
              refine code_seq ?_
              refine code_region ?_
              refine op_v (v_assign rfl) rfl ?_
              refine ops_nil ?_
              refine post_next ?_
              refine code_ret ?_
              refine post_ret_block ?_
              refine post_ret_then ?_
              refine post_ret_then ?_
              refine post_ret_block ?_
              refine post_ret_then ?_
              refine post_ret (rs := [.tmp 4]) rfl (List.Perm.refl _) (.cons (.tmp rfl) .nil) (List.nil_sublist _) ?_
              exact ⟨by rw [unkG_eq, show (T.mk h ts).args = ts from rfl, any_at_true k hlt h40]; simp [outV], rfl⟩
            · have h40' : unkG gs ts[k] = false := by simpa using h40
              rw [h40']
              refine op_v (v_not rfl) rfl ?_
              refine ops_nil ?_
              refine post_next ?_
              refine code_cond_f rfl ?_
              refine code_skip ?_
              refine post_out ?_
              refine post_next ?_
              refine code_region ?_
              refine op_v (v_move rfl) rfl ?_
              first | refine op_v (v_addb rfl rfl rfl (by omega)) rfl ?_ | refine op_v (v_add rfl rfl) rfl ?_
              refine op_v (v_assign rfl) rfl ?_
              refine ops_nil ?_
              refine post_again (ts.length - (k + 1)) [(0, .slice ga gs.length gc), (3, .pointer (some ⟨b3, 0, none⟩)), (5, .int .i64 ((k + 1 : Nat) : Int))] (by omega) ⟨k + 1, rfl, hlt, rfl, Imm.le_trans hI0 hI39, rfl, ?_⟩ ⟨rfl, rfl, rfl, trivial⟩
              intro i h hi
              rcases Nat.lt_or_ge i k with hik | hik
              · exact hp i h hik
              have hik2 : i = k := by omega
              subst hik2
              exact h40'
          · have hge : k = ts.length := by simp at hc2; omega
            refine code_exit ?_
            refine post_exit_then ?_
            refine post_exit_then ?_
            refine post_exit ?_
            refine post_next ?_
            refine code_seq ?_
            refine code_region ?_
            refine op_v (v_assign rfl) rfl ?_
            refine ops_nil ?_
            refine post_next ?_
            refine code_ret ?_
            refine post_ret (rs := [.tmp 4]) rfl (List.Perm.refl _) (.cons (.tmp rfl) .nil) (List.nil_sublist _) ?_
            exact ⟨by rw [unkG_eq, show (T.mk h ts).args = ts from rfl, any_all_false (fun i hi => hp i hi (by omega)), hno]; rfl, rfl⟩
theorem Truth_does {I : Imm} {vg v : Value} {gs : List Sy} {t : T} (hg : RepG I vg gs) (hv : RepT I v t) :
    Does Try.prog 64 [vg, v] I [] (fun v I' δ' => v = .bool (truG gs t) ∧ δ' = []) := by
  obtain ⟨ga, gc, rfl⟩ := hg.shape
  obtain ⟨_, hgc, hgb, hgat, hgok⟩ := hg.open
  obtain ⟨a0, c0, rfl, hr0⟩ := hv.shape
  refine Does.intro Try.func64 rfl Try.ntmps64 rfl fun w0 => ?_
  refine code_seq ?_
  refine code_region ?_
  refine o_box rfl rfl rfl (fun b3 => ?_)
  refine op_v (v_assign rfl) rfl ?_
  refine ops_nil ?_
  refine post_next ?_
  refine code_seq ?_
  refine code_region ?_
  first | refine op_v (v_fieldB 0 Try.underlying25 rfl rfl fz3 rfl) rfl ?_ | refine op_v (v_fieldI 0 Try.underlying25 rfl rfl fz3 rfl (by assumption)) rfl ?_ | refine op_v (v_field Try.underlying25 rfl fz3 rfl rfl) rfl ?_
  refine op_v (v_loadA ty3 rfl rfl) rfl ?_
  by_cases h7 : 0 ≤ t.head
  · first | refine op_v (v_cmptA rfl rfl rfl) rfl ?_ | refine op_v (v_cmpfA rfl rfl rfl) rfl ?_ | refine op_v (v_cmp rfl rfl rfl) rfl ?_
    refine op_v (v_move rfl) rfl ?_
    first
      | (refine op_want rfl rfl ?_
         first | refine op_v (v_fieldB 0 Try.underlying25 rfl rfl fz3 rfl) rfl ?_ | refine op_v (v_fieldI 0 Try.underlying25 rfl rfl fz3 rfl (by assumption)) rfl ?_ | refine op_v (v_field Try.underlying25 rfl fz3 rfl rfl) rfl ?_)
      | (refine op_skip rfl rfl (by simp [undef]) rfl ?_)
    first
      | (refine op_want rfl rfl ?_
         refine op_v (v_loadA ty3 rfl rfl) rfl ?_)
      | (refine op_skip rfl rfl (by simp [undef]) rfl ?_)
    first
      | (refine op_want rfl rfl ?_
         refine op_v (v_move rfl) rfl ?_)
      | (refine op_skip rfl rfl (by simp [undef]) rfl ?_)
    first
      | (refine op_want rfl rfl ?_
         refine op_v (v_len Try.underlying22 rfl) rfl ?_)
      | (refine op_skip rfl rfl (by simp [undef]) rfl ?_)
    by_cases h13 : t.head < (gs.length : Int)
    · have hlt0 : t.head.toNat < gs.length := by omega
      have hs0 := (hgat _ hlt0).isSome
      first
        | (refine op_want rfl rfl ?_
           first | refine op_v (v_cmptA rfl rfl rfl) rfl ?_ | refine op_v (v_cmpfA rfl rfl rfl) rfl ?_ | refine op_v (v_cmp rfl rfl rfl) rfl ?_)
        | (refine op_skip rfl rfl (by simp [undef]) rfl ?_)
      first | refine op_v (v_pickt rfl rfl) rfl ?_ | refine op_v (v_pickf rfl rfl) rfl ?_ | refine op_v (v_pickb rfl rfl rfl) rfl ?_
      refine op_v (v_move rfl) rfl ?_
      first
        | (refine op_want rfl rfl ?_
           refine op_v (v_move rfl) rfl ?_)
        | (refine op_skip rfl rfl (by simp [undef]) rfl ?_)
      first
        | (refine op_want rfl rfl ?_
           first | refine op_v (v_fieldB 0 Try.underlying25 rfl rfl fz3 rfl) rfl ?_ | refine op_v (v_fieldI 0 Try.underlying25 rfl rfl fz3 rfl (by assumption)) rfl ?_ | refine op_v (v_field Try.underlying25 rfl fz3 rfl rfl) rfl ?_)
        | (refine op_skip rfl rfl (by simp [undef]) rfl ?_)
      first
        | (refine op_want rfl rfl ?_
           refine op_v (v_loadA ty3 rfl rfl) rfl ?_)
        | (refine op_skip rfl rfl (by simp [undef]) rfl ?_)
      first
        | (refine op_want rfl rfl ?_
           first | refine op_v (v_indexA Try.underlying22 sz71 rfl rfl) rfl ?_ | refine op_v (v_indexIA Try.underlying22 sz71 rfl rfl) rfl ?_)
        | (refine op_skip rfl rfl (by simp [undef]) rfl ?_)
      first
        | (refine op_want rfl rfl ?_
           first | refine op_v (v_fieldB 3 Try.underlying71 rfl rfl fz4 rfl) rfl ?_ | refine op_v (v_fieldI 3 Try.underlying71 rfl rfl fz4 rfl (by assumption)) rfl ?_ | refine op_v (v_field Try.underlying71 rfl fz4 rfl rfl) rfl ?_)
        | (refine op_skip rfl rfl (by simp [undef]) rfl ?_)
      first
        | (refine op_want rfl rfl ?_
           first | refine op_v (v_loadI0 ty4 (hgat _ hlt0) rfl rfl rfl) rfl ?_ | refine op_v (v_loadI ty4 (hgat _ hlt0) rfl rfl rfl) rfl ?_)
        | (refine op_skip rfl rfl (by simp [undef]) rfl ?_)
      first | refine op_v (v_pickt rfl rfl) rfl ?_ | refine op_v (v_pickf rfl rfl) rfl ?_ | refine op_v (v_pickb rfl rfl rfl) rfl ?_
      refine op_v (v_assign rfl) rfl ?_
      refine ops_nil ?_
      refine post_next ?_
      refine code_ret ?_
      refine post_ret (rs := [.tmp 4]) rfl (List.Perm.refl _) (.cons (.tmp rfl) .nil) (List.nil_sublist _) ?_
      exact ⟨by simp [outV, truG, h7, h13, trG_at h7 h13], rfl⟩
    · first
        | (refine op_want rfl rfl ?_
           first | refine op_v (v_cmptA rfl rfl rfl) rfl ?_ | refine op_v (v_cmpfA rfl rfl rfl) rfl ?_ | refine op_v (v_cmp rfl rfl rfl) rfl ?_)
        | (refine op_skip rfl rfl (by simp [undef]) rfl ?_)
      first | refine op_v (v_pickt rfl rfl) rfl ?_ | refine op_v (v_pickf rfl rfl) rfl ?_ | refine op_v (v_pickb rfl rfl rfl) rfl ?_
      refine op_v (v_move rfl) rfl ?_
      first
        | (refine op_want rfl rfl ?_
           refine op_v (v_move rfl) rfl ?_)
        | (refine op_skip rfl rfl (by simp [undef]) rfl ?_)
      first
        | (refine op_want rfl rfl ?_
           first | refine op_v (v_fieldB 0 Try.underlying25 rfl rfl fz3 rfl) rfl ?_ | refine op_v (v_fieldI 0 Try.underlying25 rfl rfl fz3 rfl (by assumption)) rfl ?_ | refine op_v (v_field Try.underlying25 rfl fz3 rfl rfl) rfl ?_)
        | (refine op_skip rfl rfl (by simp [undef]) rfl ?_)
      first
        | (refine op_want rfl rfl ?_
           refine op_v (v_loadA ty3 rfl rfl) rfl ?_)
        | (refine op_skip rfl rfl (by simp [undef]) rfl ?_)
      first
        | (refine op_want rfl rfl ?_
           first | refine op_v (v_indexA Try.underlying22 sz71 rfl rfl) rfl ?_ | refine op_v (v_indexIA Try.underlying22 sz71 rfl rfl) rfl ?_)
        | (refine op_skip rfl rfl (by simp [undef]) rfl ?_)
      first
        | (refine op_want rfl rfl ?_
           first | refine op_v (v_fieldB 3 Try.underlying71 rfl rfl fz4 rfl) rfl ?_ | refine op_v (v_fieldI 3 Try.underlying71 rfl rfl fz4 rfl (by assumption)) rfl ?_ | refine op_v (v_field Try.underlying71 rfl fz4 rfl rfl) rfl ?_)
        | (refine op_skip rfl rfl (by simp [undef]) rfl ?_)
      first
        | (refine op_want rfl rfl ?_
           first | refine op_v (v_loadI0 ty4 (hgat _ hlt0) rfl rfl rfl) rfl ?_ | refine op_v (v_loadI ty4 (hgat _ hlt0) rfl rfl rfl) rfl ?_)
        | (refine op_skip rfl rfl (by simp [undef]) rfl ?_)
      first | refine op_v (v_pickt rfl rfl) rfl ?_ | refine op_v (v_pickf rfl rfl) rfl ?_ | refine op_v (v_pickb rfl rfl rfl) rfl ?_
      refine op_v (v_assign rfl) rfl ?_
      refine ops_nil ?_
      refine post_next ?_
      refine code_ret ?_
      refine post_ret (rs := [.tmp 4]) rfl (List.Perm.refl _) (.cons (.tmp rfl) .nil) (List.nil_sublist _) ?_
      exact ⟨by simp [outV, truG, h13], rfl⟩
  · first | refine op_v (v_cmptA rfl rfl rfl) rfl ?_ | refine op_v (v_cmpfA rfl rfl rfl) rfl ?_ | refine op_v (v_cmp rfl rfl rfl) rfl ?_
    refine op_v (v_move rfl) rfl ?_
    first
      | (refine op_want rfl rfl ?_
         first | refine op_v (v_fieldB 0 Try.underlying25 rfl rfl fz3 rfl) rfl ?_ | refine op_v (v_fieldI 0 Try.underlying25 rfl rfl fz3 rfl (by assumption)) rfl ?_ | refine op_v (v_field Try.underlying25 rfl fz3 rfl rfl) rfl ?_)
      | (refine op_skip rfl rfl (by simp [undef]) rfl ?_)
    first
      | (refine op_want rfl rfl ?_
         refine op_v (v_loadA ty3 rfl rfl) rfl ?_)
      | (refine op_skip rfl rfl (by simp [undef]) rfl ?_)
    first
      | (refine op_want rfl rfl ?_
         refine op_v (v_move rfl) rfl ?_)
      | (refine op_skip rfl rfl (by simp [undef]) rfl ?_)
    first
      | (refine op_want rfl rfl ?_
         refine op_v (v_len Try.underlying22 rfl) rfl ?_)
      | (refine op_skip rfl rfl (by simp [undef]) rfl ?_)
    first
      | (refine op_want rfl rfl ?_
         first | refine op_v (v_cmptA rfl rfl rfl) rfl ?_ | refine op_v (v_cmpfA rfl rfl rfl) rfl ?_ | refine op_v (v_cmp rfl rfl rfl) rfl ?_)
      | (refine op_skip rfl rfl (by simp [undef]) rfl ?_)
    first | refine op_v (v_pickt rfl rfl) rfl ?_ | refine op_v (v_pickf rfl rfl) rfl ?_ | refine op_v (v_pickb rfl rfl rfl) rfl ?_
    refine op_v (v_move rfl) rfl ?_
    first
      | (refine op_want rfl rfl ?_
         refine op_v (v_move rfl) rfl ?_)
      | (refine op_skip rfl rfl (by simp [undef]) rfl ?_)
    first
      | (refine op_want rfl rfl ?_
         first | refine op_v (v_fieldB 0 Try.underlying25 rfl rfl fz3 rfl) rfl ?_ | refine op_v (v_fieldI 0 Try.underlying25 rfl rfl fz3 rfl (by assumption)) rfl ?_ | refine op_v (v_field Try.underlying25 rfl fz3 rfl rfl) rfl ?_)
      | (refine op_skip rfl rfl (by simp [undef]) rfl ?_)
    first
      | (refine op_want rfl rfl ?_
         refine op_v (v_loadA ty3 rfl rfl) rfl ?_)
      | (refine op_skip rfl rfl (by simp [undef]) rfl ?_)
    first
      | (refine op_want rfl rfl ?_
         first | refine op_v (v_indexA Try.underlying22 sz71 rfl rfl) rfl ?_ | refine op_v (v_indexIA Try.underlying22 sz71 rfl rfl) rfl ?_)
      | (refine op_skip rfl rfl (by simp [undef]) rfl ?_)
    first
      | (refine op_want rfl rfl ?_
         first | refine op_v (v_fieldB 3 Try.underlying71 rfl rfl fz4 rfl) rfl ?_ | refine op_v (v_fieldI 3 Try.underlying71 rfl rfl fz4 rfl (by assumption)) rfl ?_ | refine op_v (v_field Try.underlying71 rfl fz4 rfl rfl) rfl ?_)
      | (refine op_skip rfl rfl (by simp [undef]) rfl ?_)
    first
      | (refine op_want rfl rfl ?_
         first | refine op_v (v_loadI0 ty4 (hgat _ hlt0) rfl rfl rfl) rfl ?_ | refine op_v (v_loadI ty4 (hgat _ hlt0) rfl rfl rfl) rfl ?_)
      | (refine op_skip rfl rfl (by simp [undef]) rfl ?_)
    first | refine op_v (v_pickt rfl rfl) rfl ?_ | refine op_v (v_pickf rfl rfl) rfl ?_ | refine op_v (v_pickb rfl rfl rfl) rfl ?_
    refine op_v (v_assign rfl) rfl ?_
    refine ops_nil ?_
    refine post_next ?_
    refine code_ret ?_
    refine post_ret (rs := [.tmp 4]) rfl (List.Perm.refl _) (.cons (.tmp rfl) .nil) (List.nil_sublist _) ?_
    exact ⟨by simp [outV, truG, h7], rfl⟩
theorem things_does {gs : List Sy} : ∀ (n : Nat) (t : T), t.size ≤ n → unkG gs t = false → ∀ (I : Imm) (vg v : Value), RepG I vg gs → RepT I v t →
    Does Try.prog 95 [vg, v] I [] (fun v I' δ' => v = .bool (!mixG gs t) ∧ δ' = []) := by
  intro n
  induction n with
  | zero => intro t ht; have := t.size_pos; omega
  | succ n ih =>
    intro t ht hun I vg v hg hv
    obtain ⟨h, ts⟩ := t
    obtain ⟨ga, gc, rfl⟩ := hg.shape
    obtain ⟨ad, c, ss, rfl, hr, hc, hb, hat, hsub⟩ := hv.elim
    have hsz : (T.mk h ts).size = 1 + sizeL ts := by simp [T.size]
    have hch : ∀ k (hk : k < ts.length), unkG gs ts[k] = false := fun k hk => by
      rw [unkG_eq] at hun
      simp only [Bool.or_eq_false_iff] at hun
      have h2 := hun.2
      rw [List.any_eq_false] at h2
      simpa using h2 ts[k] (List.getElem_mem hk)
    refine Does.intro Try.func95 rfl Try.ntmps95 rfl fun w0 => ?_
    refine code_seq ?_
    refine code_region ?_
    refine o_box rfl rfl rfl (fun b3 => ?_)
    refine op_v (v_assign rfl) rfl ?_
    refine ops_nil ?_
    refine post_next ?_
    refine code_seq ?_
    refine code_seq ?_
    refine code_region ?_
    refine op_v (v_assign rfl) rfl ?_
    refine ops_nil ?_
    refine post_next ?_
    refine code_block ?_
    refine code_loop (fun m σ' I' δ' => ∃ k : Nat, m = ts.length - k ∧ k ≤ ts.length ∧ σ' = [(0, .slice ga gs.length gc), (3, .pointer (some ⟨b3, 0, none⟩)), (5, .int .i64 k)] ∧ I.le I' ∧ δ' = [.box b3 25 [.int .i64 h, .slice ad ts.length c]] ∧ ∀ i (h : i < ts.length), i < k → (mixB gs (false, ts[i]) || mixG gs ts[i]) = false) ts.length [(0, .slice ga gs.length gc), (3, .pointer (some ⟨b3, 0, none⟩)), (5, .int .i64 (0 : Nat))] ⟨0, rfl, Nat.zero_le _, rfl, Imm.le_refl _, rfl, fun i _ h => by omega⟩ ⟨rfl, rfl, rfl, trivial⟩ ?_
    rintro m _ I0 _ ⟨k, rfl, hk, rfl, hI0, rfl, hp⟩
    refine code_seq ?_
    refine code_seq ?_
    refine code_region ?_
    refine op_v (v_move rfl) rfl ?_
    first | refine op_v (v_fieldB 1 Try.underlying25 rfl rfl fz23 rfl) rfl ?_ | refine op_v (v_fieldI 1 Try.underlying25 rfl rfl fz23 rfl (by assumption)) rfl ?_ | refine op_v (v_field Try.underlying25 rfl fz23 rfl rfl) rfl ?_
    refine op_v (v_loadA ty23 rfl rfl) rfl ?_
    refine op_v (v_len Try.underlying23 rfl) rfl ?_
    first | refine op_v (v_cmptA rfl rfl rfl) rfl ?_ | refine op_v (v_cmpfA rfl rfl rfl) rfl ?_ | refine op_v (v_cmp rfl rfl rfl) rfl ?_
    refine ops_nil ?_
    refine post_next ?_
    refine code_cond rfl (fun hc0 => ?_) (fun hc0 => ?_)
    · have hlt : k < ts.length := by simpa using hc0
      have hs1 := (hat k hlt).isSome
      have hm := sizeL_mem ts k hlt
      refine code_skip ?_
      refine post_next ?_
      refine code_seq ?_
      refine code_block ?_
      refine code_seq ?_
      refine code_region ?_
      refine op_v (v_move rfl) rfl ?_
      first | refine op_v (v_fieldB 1 Try.underlying25 rfl rfl fz23 rfl) rfl ?_ | refine op_v (v_fieldI 1 Try.underlying25 rfl rfl fz23 rfl (by assumption)) rfl ?_ | refine op_v (v_field Try.underlying25 rfl fz23 rfl rfl) rfl ?_
      refine op_v (v_loadA ty23 rfl rfl) rfl ?_
      refine op_v (v_move rfl) rfl ?_
      first | refine op_v (v_indexA Try.underlying23 sz25 rfl rfl) rfl ?_ | refine op_v (v_indexIA Try.underlying23 sz25 rfl rfl) rfl ?_
      first | refine op_v (v_loadI0 ty25 ((hat k hlt).mono hI0) rfl rfl rfl) rfl ?_ | refine op_v (v_loadI ty25 ((hat k hlt).mono hI0) rfl rfl rfl) rfl ?_
      refine op_call pl64 rfl rfl ((Truth_does (hg.mono hI0) ((hsub k hlt).mono hI0))) Parts.none ?_
      rintro _ I19 _ hI19 ⟨rfl, rfl⟩
      rw [← mixB_tru (hch k hlt)]
      by_cases h20 : mixB gs (false, ts[k]) = true
      · rw [h20]
        refine op_v (v_move rfl) rfl ?_
        first
          | (refine op_want rfl rfl ?_
             refine op_v (v_move rfl) rfl ?_)
          | (refine op_skip rfl rfl (by simp [undef]) rfl ?_)
        first
          | (refine op_want rfl rfl ?_
             first | refine op_v (v_fieldB 1 Try.underlying25 rfl rfl fz23 rfl) rfl ?_ | refine op_v (v_fieldI 1 Try.underlying25 rfl rfl fz23 rfl (by assumption)) rfl ?_ | refine op_v (v_field Try.underlying25 rfl fz23 rfl rfl) rfl ?_)
          | (refine op_skip rfl rfl (by simp [undef]) rfl ?_)
        first
          | (refine op_want rfl rfl ?_
             refine op_v (v_loadA ty23 rfl rfl) rfl ?_)
          | (refine op_skip rfl rfl (by simp [undef]) rfl ?_)
        first
          | (refine op_want rfl rfl ?_
             refine op_v (v_move rfl) rfl ?_)
          | (refine op_skip rfl rfl (by simp [undef]) rfl ?_)
        first
          | (refine op_want rfl rfl ?_
             first | refine op_v (v_indexA Try.underlying23 sz25 rfl rfl) rfl ?_ | refine op_v (v_indexIA Try.underlying23 sz25 rfl rfl) rfl ?_)
          | (refine op_skip rfl rfl (by simp [undef]) rfl ?_)
        first
          | (refine op_want rfl rfl ?_
             first | refine op_v (v_loadI0 ty25 (((hat k hlt).mono hI0).mono hI19) rfl rfl rfl) rfl ?_ | refine op_v (v_loadI ty25 (((hat k hlt).mono hI0).mono hI19) rfl rfl rfl) rfl ?_)
          | (refine op_skip rfl rfl (by simp [undef]) rfl ?_)
        first
          | (refine op_want rfl rfl ?_
             refine op_call pl95 rfl rfl ((ih ts[k] (by omega) (hch k hlt) _ _ _ (hg.mono Imm.leA) ((hsub k hlt).mono Imm.leA))) Parts.none ?_
             rintro _ I27 _ hI27 ⟨rfl, rfl⟩)
          | (refine op_skip rfl rfl (by simp [undef]) rfl ?_)
        first
          | (refine op_want rfl rfl ?_
             refine op_v (v_not rfl) rfl ?_)
          | (refine op_skip rfl rfl (by simp [undef]) rfl ?_)
        first | refine op_v (v_pickt rfl rfl) rfl ?_ | refine op_v (v_pickf rfl rfl) rfl ?_ | refine op_v (v_pickb rfl rfl rfl) rfl ?_
        refine ops_nil ?_
        refine post_next ?_
        refine code_cond_t rfl ?_
        refine code_seq ?_
        refine code_region ?_
        refine op_v (v_assign rfl) rfl ?_
        refine ops_nil ?_
        refine post_next ?_
        refine code_ret ?_
        refine post_ret_block ?_
        refine post_ret_then ?_
        refine post_ret_then ?_
        refine post_ret_block ?_
        refine post_ret_then ?_
        refine post_ret (rs := [.tmp 4]) rfl (List.Perm.refl _) (.cons (.tmp rfl) .nil) (List.nil_sublist _) ?_
        exact ⟨by rw [mixG_eq, show (T.mk h ts).args = ts from rfl, any_at_true k hlt (by rw [h20]; rfl)]; rfl, rfl⟩
      · have h20' : mixB gs (false, ts[k]) = false := by simpa using h20
        rw [h20']
        refine op_v (v_move rfl) rfl ?_
        first
          | (refine op_want rfl rfl ?_
             refine op_v (v_move rfl) rfl ?_)
          | (refine op_skip rfl rfl (by simp [undef]) rfl ?_)
        first
          | (refine op_want rfl rfl ?_
             first | refine op_v (v_fieldB 1 Try.underlying25 rfl rfl fz23 rfl) rfl ?_ | refine op_v (v_fieldI 1 Try.underlying25 rfl rfl fz23 rfl (by assumption)) rfl ?_ | refine op_v (v_field Try.underlying25 rfl fz23 rfl rfl) rfl ?_)
          | (refine op_skip rfl rfl (by simp [undef]) rfl ?_)
        first
          | (refine op_want rfl rfl ?_
             refine op_v (v_loadA ty23 rfl rfl) rfl ?_)
          | (refine op_skip rfl rfl (by simp [undef]) rfl ?_)
        first
          | (refine op_want rfl rfl ?_
             refine op_v (v_move rfl) rfl ?_)
          | (refine op_skip rfl rfl (by simp [undef]) rfl ?_)
        first
          | (refine op_want rfl rfl ?_
             first | refine op_v (v_indexA Try.underlying23 sz25 rfl rfl) rfl ?_ | refine op_v (v_indexIA Try.underlying23 sz25 rfl rfl) rfl ?_)
          | (refine op_skip rfl rfl (by simp [undef]) rfl ?_)
        first
          | (refine op_want rfl rfl ?_
             first | refine op_v (v_loadI0 ty25 (((hat k hlt).mono hI0).mono hI19) rfl rfl rfl) rfl ?_ | refine op_v (v_loadI ty25 (((hat k hlt).mono hI0).mono hI19) rfl rfl rfl) rfl ?_)
          | (refine op_skip rfl rfl (by simp [undef]) rfl ?_)
        first
          | (refine op_want rfl rfl ?_
             refine op_call pl95 rfl rfl ((ih ts[k] (by omega) (hch k hlt) _ _ _ (hg.mono Imm.leA) ((hsub k hlt).mono Imm.leA))) Parts.none ?_
             rintro _ I27 _ hI27 ⟨rfl, rfl⟩)
          | (refine op_skip rfl rfl (by simp [undef]) rfl ?_)
        by_cases h28 : mixG gs ts[k] = true
        · rw [h28]
          first
            | (refine op_want rfl rfl ?_
               refine op_v (v_not rfl) rfl ?_)
            | (refine op_skip rfl rfl (by simp [undef]) rfl ?_)
          first | refine op_v (v_pickt rfl rfl) rfl ?_ | refine op_v (v_pickf rfl rfl) rfl ?_ | refine op_v (v_pickb rfl rfl rfl) rfl ?_
          refine ops_nil ?_
          refine post_next ?_
          refine code_cond_t rfl ?_
          refine code_seq ?_
          refine code_region ?_
          refine op_v (v_assign rfl) rfl ?_
          refine ops_nil ?_
          refine post_next ?_
          refine code_ret ?_
          refine post_ret_block ?_
          refine post_ret_then ?_
          refine post_ret_then ?_
          refine post_ret_block ?_
          refine post_ret_then ?_
          refine post_ret (rs := [.tmp 4]) rfl (List.Perm.refl _) (.cons (.tmp rfl) .nil) (List.nil_sublist _) ?_
          exact ⟨by rw [mixG_eq, show (T.mk h ts).args = ts from rfl, any_at_true k hlt (by rw [h28]; simp)]; rfl, rfl⟩
        · have h28' : mixG gs ts[k] = false := by simpa using h28
          rw [h28']
          first
            | (refine op_want rfl rfl ?_
               refine op_v (v_not rfl) rfl ?_)
            | (refine op_skip rfl rfl (by simp [undef]) rfl ?_)
          first | refine op_v (v_pickt rfl rfl) rfl ?_ | refine op_v (v_pickf rfl rfl) rfl ?_ | refine op_v (v_pickb rfl rfl rfl) rfl ?_
          refine ops_nil ?_
          refine post_next ?_
          refine code_cond_f rfl ?_
          refine code_skip ?_
          refine post_out ?_
          refine post_next ?_
          refine code_region ?_
          refine op_v (v_move rfl) rfl ?_
          first | refine op_v (v_addb rfl rfl rfl (by omega)) rfl ?_ | refine op_v (v_add rfl rfl) rfl ?_
          refine op_v (v_assign rfl) rfl ?_
          refine ops_nil ?_
          refine post_again (ts.length - (k + 1)) [(0, .slice ga gs.length gc), (3, .pointer (some ⟨b3, 0, none⟩)), (5, .int .i64 ((k + 1 : Nat) : Int))] (by omega) ⟨k + 1, rfl, hlt, rfl, Imm.leA, rfl, ?_⟩ ⟨rfl, rfl, rfl, trivial⟩
          intro i h hi
          rcases Nat.lt_or_ge i k with hik | hik
          · exact hp i h hik
          have hik2 : i = k := by omega
          subst hik2
          rw [h20', h28']; rfl
    · have hge : k = ts.length := by simp at hc0; omega
      refine code_exit ?_
      refine post_exit_then ?_
      refine post_exit_then ?_
      refine post_exit ?_
      refine post_next ?_
      refine code_seq ?_
      refine code_region ?_
      refine op_v (v_assign rfl) rfl ?_
      refine ops_nil ?_
      refine post_next ?_
      refine code_ret ?_
      refine post_ret (rs := [.tmp 4]) rfl (List.Perm.refl _) (.cons (.tmp rfl) .nil) (List.nil_sublist _) ?_
      exact ⟨by rw [mixG_eq, show (T.mk h ts).args = ts from rfl, any_all_false (fun i hi => hp i hi (by omega))]; rfl, rfl⟩
theorem RTerm_does {I : Imm} {vg v : Value} {gs : List Sy} {t : T} (hg : RepG I vg gs) (hv : RepT I v t) (hbig : t.size ≤ 1000000000) :
    Does Try.prog 63 [vg, v] I [] (fun v _ δ' => v = .int .i64 (termG gs t) ∧ δ' = []) := by
  obtain ⟨ga, gc, rfl⟩ := hg.shape
  obtain ⟨a0, c0, rfl, hr0⟩ := hv.shape
  refine Does.intro Try.func63 rfl Try.ntmps63 rfl fun w0 => ?_
  refine code_seq ?_
  refine code_region ?_
  refine o_box rfl rfl rfl (fun b3 => ?_)
  refine op_v (v_assign rfl) rfl ?_
  refine ops_nil ?_
  refine post_next ?_
  refine code_seq ?_
  refine code_seq ?_
  refine code_region ?_
  refine op_v (v_move rfl) rfl ?_
  refine op_call pl61 rfl rfl ((RightR_does (hg.mono Imm.leA))) Parts.none ?_
  rintro _ I7 _ hI7 ⟨rfl, rfl⟩
  by_cases h8 : rightG gs = true
  · rw [h8]
    have hG : chkG gs = 0 := by simp [chkG, h8]
    refine op_v (v_not rfl) rfl ?_
    refine ops_nil ?_
    refine post_next ?_
    refine code_cond_f rfl ?_
    refine code_skip ?_
    refine post_next ?_
    refine code_seq ?_
    refine code_region ?_
    refine op_v (v_loadA ty25 rfl rfl) rfl ?_
    refine op_call pl93 rfl rfl ((RCheck_does (hv.mono Imm.leA) hbig)) Parts.none ?_
    rintro _ I10 _ hI10 ⟨rfl, rfl⟩
    refine op_v (v_assign rfl) rfl ?_
    refine ops_nil ?_
    refine post_next ?_
    refine code_seq ?_
    refine code_seq ?_
    refine code_region ?_
    refine op_v (v_move rfl) rfl ?_
    by_cases h12 : chkT t ≠ 0
    · first | refine op_v (v_cmptA rfl rfl rfl) rfl ?_ | refine op_v (v_cmpfA rfl rfl rfl) rfl ?_ | refine op_v (v_cmp rfl rfl rfl) rfl ?_
      refine ops_nil ?_
      refine post_next ?_
      refine code_cond_t rfl ?_
      refine code_seq ?_
      refine code_region ?_
      refine op_v (v_move rfl) rfl ?_
      refine op_v (v_assign rfl) rfl ?_
      refine ops_nil ?_
      refine post_next ?_
      refine code_ret ?_
      refine post_ret_then ?_
      refine post_ret (rs := [.tmp 4]) rfl (List.Perm.refl _) (.cons (.tmp rfl) .nil) (List.nil_sublist _) ?_
      exact ⟨by unfold termG; rw [hG, if_neg (by simp), if_pos h12]; rfl, rfl⟩
    · have h0 : chkT t = 0 := by omega
      first | refine op_v (v_cmptA rfl rfl rfl) rfl ?_ | refine op_v (v_cmpfA rfl rfl rfl) rfl ?_ | refine op_v (v_cmp rfl rfl rfl) rfl ?_
      refine ops_nil ?_
      refine post_next ?_
      refine code_cond_f rfl ?_
      refine code_skip ?_
      refine post_next ?_
      refine code_seq ?_
      refine code_seq ?_
      refine code_region ?_
      refine op_v (v_move rfl) rfl ?_
      refine op_v (v_loadA ty25 rfl rfl) rfl ?_
      refine op_call pl94 rfl rfl ((known_does _ _ (Nat.le_refl _) h0 _ _ _ (hg.mono Imm.leA) (hv.mono Imm.leA))) Parts.none ?_
      rintro _ I16 _ hI16 ⟨rfl, rfl⟩
      by_cases h17 : unkG gs t = true
      · rw [h17]
        refine op_v (v_not rfl) rfl ?_
        refine ops_nil ?_
        refine post_next ?_
        refine code_cond_t rfl ?_
        refine code_seq ?_
        refine code_region ?_
        refine op_v (v_assign rfl) rfl ?_
        refine ops_nil ?_
        refine post_next ?_
        refine code_ret ?_
        refine post_ret_then ?_
        refine post_ret (rs := [.tmp 4]) rfl (List.Perm.refl _) (.cons (.tmp rfl) .nil) (List.nil_sublist _) ?_
        exact ⟨by unfold termG; rw [hG, h0, if_neg (by simp), if_neg (by simp), if_pos h17]; rfl, rfl⟩
      · have h17' : unkG gs t = false := by simpa using h17
        rw [h17']
        refine op_v (v_not rfl) rfl ?_
        refine ops_nil ?_
        refine post_next ?_
        refine code_cond_f rfl ?_
        refine code_skip ?_
        refine post_next ?_
        refine code_seq ?_
        refine code_seq ?_
        refine code_region ?_
        refine op_v (v_move rfl) rfl ?_
        refine op_v (v_loadA ty25 rfl rfl) rfl ?_
        refine op_call pl95 rfl rfl ((things_does _ _ (Nat.le_refl _) h17' _ _ _ (hg.mono Imm.leA) (hv.mono Imm.leA))) Parts.none ?_
        rintro _ I20 _ hI20 ⟨rfl, rfl⟩
        by_cases h21 : mixG gs t = true
        · rw [h21]
          refine op_v (v_not rfl) rfl ?_
          refine ops_nil ?_
          refine post_next ?_
          refine code_cond_t rfl ?_
          refine code_seq ?_
          refine code_region ?_
          refine op_v (v_assign rfl) rfl ?_
          refine ops_nil ?_
          refine post_next ?_
          refine code_ret ?_
          refine post_ret_then ?_
          refine post_ret (rs := [.tmp 4]) rfl (List.Perm.refl _) (.cons (.tmp rfl) .nil) (List.nil_sublist _) ?_
          exact ⟨by unfold termG; rw [hG, h0, if_neg (by simp), if_neg (by simp), if_neg (by rw [h17']; simp), if_pos h21]; rfl, rfl⟩
        · have h21' : mixG gs t = false := by simpa using h21
          rw [h21']
          refine op_v (v_not rfl) rfl ?_
          refine ops_nil ?_
          refine post_next ?_
          refine code_cond_f rfl ?_
          refine code_skip ?_
          refine post_next ?_
          refine code_seq ?_
          refine code_region ?_
          refine op_v (v_assign rfl) rfl ?_
          refine ops_nil ?_
          refine post_next ?_
          refine code_ret ?_
          refine post_ret (rs := [.tmp 4]) rfl (List.Perm.refl _) (.cons (.tmp rfl) .nil) (List.nil_sublist _) ?_
          exact ⟨by unfold termG; rw [hG, h0, if_neg (by simp), if_neg (by simp), if_neg (by rw [h17']; simp), if_neg (by rw [h21']; simp)]; rfl, rfl⟩
  · have h8' : rightG gs = false := by simpa using h8
    rw [h8']
    have hG : chkG gs = 1 := by simp [chkG, h8']
    refine op_v (v_not rfl) rfl ?_
    refine ops_nil ?_
    refine post_next ?_
    refine code_cond_t rfl ?_
    refine code_seq ?_
    refine code_region ?_
    refine op_v (v_assign rfl) rfl ?_
    refine ops_nil ?_
    refine post_next ?_
    refine code_ret ?_
    refine post_ret_then ?_
    refine post_ret (rs := [.tmp 4]) rfl (List.Perm.refl _) (.cons (.tmp rfl) .nil) (List.nil_sublist _) ?_
    exact ⟨by unfold termG; rw [hG]; rfl, rfl⟩
end Go.Proofs.Ytegceppoioeeaaa
