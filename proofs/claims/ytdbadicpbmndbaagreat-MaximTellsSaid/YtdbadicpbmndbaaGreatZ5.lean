/- Own texts, one behind the other: rules of a small program logic, walks through the program's functions, plain facts. No condition. -/
import Derived.Test.YtdbadicpbmndbaaGreatZ4
/- Walks: the document's answers on terms of a signature. -/
set_option linter.unusedVariables false
set_option linter.unusedSimpArgs false
set_option linter.unnecessarySimpa false
/- short -/
namespace Go.Proofs.YtdbadicpbmndbaaGreat
open Go Lg

/-! ### plain -/
theorem any_partsL (d : Nat) : ∀ ts : List T, (partsL d ts).any badN = ts.any fun t => (partsT 1 t).any badN
  | [] => rfl
  | t :: r => by rw [partsL, List.any_append, List.any_cons, any_partsL d r, any_T d 1 t]
theorem any_visL (p : Bool × T → Bool) : ∀ ts : List T, (visL ts).any p = ts.any fun t => (visT false t).any p
  | [] => rfl
  | t :: r => by rw [visL, List.any_append, List.any_cons, any_visL p r]
theorem unk_vis (gs : List Sy) (b : Bool) (t : T) : (visT b t).any (unkB gs) = unkG gs t := by
  unfold unkG; rw [visT_eq, visT_eq]; rfl
theorem unkG_eq (gs : List Sy) (t : T) : unkG gs t = (unkB gs (true, t) || t.args.any (unkG gs)) := by
  unfold unkG
  rw [visT_eq, List.any_cons, any_visL]
  congr 2
  funext u
  exact unk_vis gs false u
theorem mixG_eq (gs : List Sy) (t : T) : mixG gs t = t.args.any fun u => mixB gs (false, u) || mixG gs u := by
  have h0 : ∀ u : T, mixB gs (true, u) = false := fun u => by simp [mixB]
  have h1 : ∀ u : T, mixG gs u = (visL u.args).any (mixB gs) := fun u => by unfold mixG; rw [visT_eq, List.any_cons, h0]; simp
  rw [h1, any_visL]
  congr 1
  funext u
  rw [visT_eq, List.any_cons, h1 u]
def badN1 (t : T) : Bool := (partsT 1 t).any badN
theorem badN1_eq (h : Int) (ts : List T) : badN1 (.mk h ts) = (badN (1, .mk h ts) || ts.any badN1) := by
  unfold badN1
  rw [partsT, List.any_cons, any_partsL]
theorem chkT_args {h : Int} {ts : List T} (hc : chkT (.mk h ts) = 0) : (h < 0 → ts = []) ∧ ∀ k (hk : k < ts.length), chkT ts[k] = 0 :=
  ⟨fun hn => (chk_vis hc (true, .mk h ts) (by rw [visT_eq]; exact List.mem_cons_self ..)).1 hn, fun k hk => chk_part hc k hk⟩
def truG (gs : List Sy) (t : T) : Bool := decide (0 ≤ t.head) && (decide (t.head < gs.length) && trG gs t.head)
theorem mixB_tru {gs : List Sy} {t : T} (h : unkG gs t = false) : mixB gs (false, t) = truG gs t := by
  have h2 : unkB gs (false, t) = false := by rw [unkG_eq] at h; simp only [Bool.or_eq_false_iff] at h; exact h.1
  unfold mixB truG
  rw [h2]
  by_cases h0 : 0 ≤ t.head
  · have : ¬ (gs.length : Int) ≤ t.head := by
      intro hq; simp [unkB, h0, hq] at h2
    simp [h0, show t.head < gs.length by omega]
  · simp [h0]
theorem badN_iff {h : Int} {ts : List T} : badN (1, .mk h ts) = true ↔ (h < 0 ∧ 0 < ts.length) ∨ h < -256 ∨ 1023 < h ∨ 8 < ts.length := by
  have e : badN (1, .mk h ts) = (decide (h < 0) && decide (0 < ts.length) || decide (h < -256) || decide (1023 < h) || decide (8 < ts.length)) := rfl
  rw [e]; simp only [Bool.or_eq_true, Bool.and_eq_true, decide_eq_true_eq, or_assoc]
theorem unkB_iff {gs : List Sy} {b : Bool} {h : Int} {ts : List T} : unkB gs (b, .mk h ts) = true ↔ 0 ≤ h ∧ ((gs.length : Int) ≤ h ∨ (ts.length : Int) ≠ arG gs h) := by
  have e : unkB gs (b, .mk h ts) = (decide (0 ≤ h) && (decide ((gs.length : Int) ≤ h) || decide ((ts.length : Int) ≠ arG gs h))) := rfl
  rw [e]; simp only [Bool.or_eq_true, Bool.and_eq_true, decide_eq_true_eq]
/-! ### walks -/
theorem good_does : ∀ (n : Nat) (t : T), t.size ≤ n → ∀ (I : Imm) (v : Value), RepT I v t →
    Does Tryz.prog 162 [v] I [] (fun v I' δ' => v = .bool (!badN1 t) ∧ δ' = []) := by
  intro n
  induction n with
  | zero => intro t ht; have := t.size_pos; omega
  | succ n ih =>
    intro t ht I v hv
    obtain ⟨h, ts⟩ := t
    obtain ⟨ad, c, ss, rfl, hr, hc, hb, hat, hsub⟩ := hv.elim
    have hsz : (T.mk h ts).size = 1 + sizeL ts := by simp [T.size]
    have hbn : badN (1, .mk h ts) = true → badN1 (.mk h ts) = true := fun q => by rw [badN1_eq, q]; rfl
    refine Does.intro Tryz.func162 rfl Tryz.ntmps162 rfl fun w0 => ?_
    refine code_seq ?_
    refine code_region ?_
    refine o_box rfl rfl rfl (fun b1 => ?_)
    refine op_v (v_assign rfl) rfl ?_
    refine ops_nil ?_
    refine post_next ?_
    refine code_seq ?_
    refine code_seq ?_
    refine code_region ?_
    refine op_v (v_fieldB 0 Tryz.underlying48 rfl rfl fz3 rfl) rfl ?_
    refine op_v (v_loadA ty3 rfl rfl) rfl ?_
    by_cases h6 : h < 0
    · refine op_v (v_cmptA rfl rfl rfl) rfl ?_
      refine op_v (v_move rfl) rfl ?_
      first
        | (refine op_want rfl rfl ?_
           refine op_v (v_fieldB 1 Tryz.underlying48 rfl rfl fz46 rfl) rfl ?_)
        | (refine op_skip rfl rfl (by simp [undef]) rfl ?_)
      refine op_want rfl rfl ?_
      refine op_v (v_loadA ty46 rfl rfl) rfl ?_
      refine op_want rfl rfl ?_
      refine op_v (v_len Tryz.underlying46 rfl) rfl ?_
      by_cases h11 : 0 < ts.length
      · first
          | (refine op_want rfl rfl ?_
             refine op_v (v_cmptA rfl rfl rfl) rfl ?_)
          | (refine op_skip rfl rfl (by simp [undef]) rfl ?_)
        refine op_v (v_pickt rfl rfl) rfl ?_
        refine op_v (v_move rfl) rfl ?_
        refine op_skip rfl rfl (by simp [undef]) rfl ?_
        refine op_skip rfl rfl (by simp [undef]) rfl ?_
        refine op_skip rfl rfl (by simp [undef]) rfl ?_
        refine op_v (v_pickt rfl rfl) rfl ?_
        refine op_v (v_move rfl) rfl ?_
        refine op_skip rfl rfl (by simp [undef]) rfl ?_
        refine op_skip rfl rfl (by simp [undef]) rfl ?_
        refine op_skip rfl rfl (by simp [undef]) rfl ?_
        refine op_v (v_pickt rfl rfl) rfl ?_
        refine op_v (v_move rfl) rfl ?_
        refine op_skip rfl rfl (by simp [undef]) rfl ?_
        refine op_skip rfl rfl (by simp [undef]) rfl ?_
        refine op_skip rfl rfl (by simp [undef]) rfl ?_
        refine op_skip rfl rfl (by simp [undef]) rfl ?_
        refine op_v (v_pickt rfl rfl) rfl ?_
        refine ops_nil ?_
        refine post_next ?_
        refine code_cond_t rfl ?_
        refine code_seq ?_
        refine code_region ?_
        refine op_v (v_assign rfl) rfl ?_
        refine ops_nil ?_
        refine post_next ?_
        refine code_ret ?_
        refine post_ret_then ?_
        refine post_ret (rs := [.tmp 2]) rfl (List.Perm.refl _) (.cons (.tmp rfl) .nil) (List.nil_sublist _) ?_
        exact ⟨by rw [hbn (badN_iff.2 (.inl ⟨h6, h11⟩))]; rfl, rfl⟩
      · first
          | (refine op_want rfl rfl ?_
             refine op_v (v_cmpfA rfl rfl rfl) rfl ?_)
          | (refine op_skip rfl rfl (by simp [undef]) rfl ?_)
        refine op_v (v_pickt rfl rfl) rfl ?_
        refine op_v (v_move rfl) rfl ?_
        first
          | (refine op_want rfl rfl ?_
             refine op_v (v_fieldB 0 Tryz.underlying48 rfl rfl fz3 rfl) rfl ?_)
          | (refine op_skip rfl rfl (by simp [undef]) rfl ?_)
        refine op_want rfl rfl ?_
        refine op_v (v_loadA ty3 rfl rfl) rfl ?_
        by_cases h16 : h < -256
        · first
            | (refine op_want rfl rfl ?_
               refine op_v (v_cmptA rfl rfl rfl) rfl ?_)
            | (refine op_skip rfl rfl (by simp [undef]) rfl ?_)
          refine op_v (v_pickf rfl rfl) rfl ?_
          refine op_v (v_move rfl) rfl ?_
          refine op_skip rfl rfl (by simp [undef]) rfl ?_
          refine op_skip rfl rfl (by simp [undef]) rfl ?_
          refine op_skip rfl rfl (by simp [undef]) rfl ?_
          refine op_v (v_pickt rfl rfl) rfl ?_
          refine op_v (v_move rfl) rfl ?_
          refine op_skip rfl rfl (by simp [undef]) rfl ?_
          refine op_skip rfl rfl (by simp [undef]) rfl ?_
          refine op_skip rfl rfl (by simp [undef]) rfl ?_
          refine op_skip rfl rfl (by simp [undef]) rfl ?_
          refine op_v (v_pickt rfl rfl) rfl ?_
          refine ops_nil ?_
          refine post_next ?_
          refine code_cond_t rfl ?_
          refine code_seq ?_
          refine code_region ?_
          refine op_v (v_assign rfl) rfl ?_
          refine ops_nil ?_
          refine post_next ?_
          refine code_ret ?_
          refine post_ret_then ?_
          refine post_ret (rs := [.tmp 2]) rfl (List.Perm.refl _) (.cons (.tmp rfl) .nil) (List.nil_sublist _) ?_
          exact ⟨by rw [hbn (badN_iff.2 (.inr (.inl h16)))]; rfl, rfl⟩
        · first
            | (refine op_want rfl rfl ?_
               refine op_v (v_cmpfA rfl rfl rfl) rfl ?_)
            | (refine op_skip rfl rfl (by simp [undef]) rfl ?_)
          refine op_v (v_pickf rfl rfl) rfl ?_
          refine op_v (v_move rfl) rfl ?_
          first
            | (refine op_want rfl rfl ?_
               refine op_v (v_fieldB 0 Tryz.underlying48 rfl rfl fz3 rfl) rfl ?_)
            | (refine op_skip rfl rfl (by simp [undef]) rfl ?_)
          refine op_want rfl rfl ?_
          refine op_v (v_loadA ty3 rfl rfl) rfl ?_
          by_cases h21 : 1023 < h
          · first
              | (refine op_want rfl rfl ?_
                 refine op_v (v_cmptA rfl rfl rfl) rfl ?_)
              | (refine op_skip rfl rfl (by simp [undef]) rfl ?_)
            refine op_v (v_pickf rfl rfl) rfl ?_
            refine op_v (v_move rfl) rfl ?_
            refine op_skip rfl rfl (by simp [undef]) rfl ?_
            refine op_skip rfl rfl (by simp [undef]) rfl ?_
            refine op_skip rfl rfl (by simp [undef]) rfl ?_
            refine op_skip rfl rfl (by simp [undef]) rfl ?_
            refine op_v (v_pickt rfl rfl) rfl ?_
            refine ops_nil ?_
            refine post_next ?_
            refine code_cond_t rfl ?_
            refine code_seq ?_
            refine code_region ?_
            refine op_v (v_assign rfl) rfl ?_
            refine ops_nil ?_
            refine post_next ?_
            refine code_ret ?_
            refine post_ret_then ?_
            refine post_ret (rs := [.tmp 2]) rfl (List.Perm.refl _) (.cons (.tmp rfl) .nil) (List.nil_sublist _) ?_
            exact ⟨by rw [hbn (badN_iff.2 (.inr (.inr (.inl h21))))]; rfl, rfl⟩
          · first
              | (refine op_want rfl rfl ?_
                 refine op_v (v_cmpfA rfl rfl rfl) rfl ?_)
              | (refine op_skip rfl rfl (by simp [undef]) rfl ?_)
            refine op_v (v_pickf rfl rfl) rfl ?_
            refine op_v (v_move rfl) rfl ?_
            first
              | (refine op_want rfl rfl ?_
                 refine op_v (v_fieldB 1 Tryz.underlying48 rfl rfl fz46 rfl) rfl ?_)
              | (refine op_skip rfl rfl (by simp [undef]) rfl ?_)
            refine op_want rfl rfl ?_
            refine op_v (v_loadA ty46 rfl rfl) rfl ?_
            refine op_want rfl rfl ?_
            refine op_v (v_len Tryz.underlying46 rfl) rfl ?_
            by_cases h27 : 8 < ts.length
            · first
                | (refine op_want rfl rfl ?_
                   refine op_v (v_cmptA rfl rfl rfl) rfl ?_)
                | (refine op_skip rfl rfl (by simp [undef]) rfl ?_)
              refine op_v (v_pickf rfl rfl) rfl ?_
              refine ops_nil ?_
              refine post_next ?_
              refine code_cond_t rfl ?_
              refine code_seq ?_
              refine code_region ?_
              refine op_v (v_assign rfl) rfl ?_
              refine ops_nil ?_
              refine post_next ?_
              refine code_ret ?_
              refine post_ret_then ?_
              refine post_ret (rs := [.tmp 2]) rfl (List.Perm.refl _) (.cons (.tmp rfl) .nil) (List.nil_sublist _) ?_
              exact ⟨by rw [hbn (badN_iff.2 (.inr (.inr (.inr h27))))]; rfl, rfl⟩
            · have hno : badN (1, .mk h ts) = false := by { cases hq : badN (1, .mk h ts); rfl; rw [badN_iff] at hq; omega }
              first
                | (refine op_want rfl rfl ?_
                   refine op_v (v_cmpfA rfl rfl rfl) rfl ?_)
                | (refine op_skip rfl rfl (by simp [undef]) rfl ?_)
              refine op_v (v_pickf rfl rfl) rfl ?_
              refine ops_nil ?_
              refine post_next ?_
              refine code_cond_f rfl ?_
              refine code_skip ?_
              refine post_next ?_
              refine code_seq ?_
              refine code_seq ?_
              refine code_region ?_
              refine op_v (v_assign rfl) rfl ?_
              refine ops_nil ?_
              refine post_next ?_
              refine code_block ?_
              refine code_loop (fun m σ' I' δ' => ∃ k : Nat, m = ts.length - k ∧ k ≤ ts.length ∧ σ' = [(1, .pointer (some ⟨b1, 0, none⟩)), (3, .int .i64 k)] ∧ I.le I' ∧ δ' = [.box b1 48 [.int .i64 h, .slice ad ts.length c]] ∧ ∀ i (h : i < ts.length), i < k → badN1 ts[i] = false) ts.length [(1, .pointer (some ⟨b1, 0, none⟩)), (3, .int .i64 (0 : Nat))] ⟨0, rfl, Nat.zero_le _, rfl, Imm.le_refl _, rfl, fun i _ h => by omega⟩ ⟨rfl, rfl, trivial⟩ ?_
              rintro m _ I0 _ ⟨k, rfl, hk, rfl, hI0, rfl, hp⟩
              refine code_seq ?_
              refine code_seq ?_
              refine code_region ?_
              refine op_v (v_move rfl) rfl ?_
              refine op_v (v_fieldB 1 Tryz.underlying48 rfl rfl fz46 rfl) rfl ?_
              refine op_v (v_loadA ty46 rfl rfl) rfl ?_
              refine op_v (v_len Tryz.underlying46 rfl) rfl ?_
              refine op_v (v_cmpfA rfl rfl rfl) rfl ?_
              refine ops_nil ?_
              refine post_next ?_
              refine code_cond rfl (fun hc1 => ?_) (fun hc1 => ?_)
              · have hlt : k < ts.length := by simpa using hc1
                have hs1 := (hat k hlt).isSome
                have hm := sizeL_mem ts k hlt
                refine code_skip ?_
                refine post_next ?_
                refine code_seq ?_
                refine code_block ?_
                refine code_seq ?_
                refine code_region ?_
                refine op_v (v_fieldB 1 Tryz.underlying48 rfl rfl fz46 rfl) rfl ?_
                refine op_v (v_loadA ty46 rfl rfl) rfl ?_
                refine op_v (v_move rfl) rfl ?_
                refine op_v (v_indexA Tryz.underlying46 sz48 rfl rfl) rfl ?_
                refine op_v (v_loadI0 ty48 ((hat k hlt).mono hI0) rfl rfl rfl) rfl ?_
                refine op_call pl162 rfl rfl ((ih ts[k] (by omega) _ _ ((hsub k hlt).mono hI0))) Parts.none ?_
                rintro _ I41 _ hI41 ⟨rfl, rfl⟩
                by_cases h42 : badN1 ts[k] = true
                · rw [h42]
                  refine op_v (v_not rfl) rfl ?_
                  refine ops_nil ?_
                  refine post_next ?_
                  refine code_cond_t rfl ?_
                  refine code_seq ?_
                  refine code_region ?_
                  refine op_v (v_assign rfl) rfl ?_
                  refine ops_nil ?_
                  refine post_next ?_
                  refine code_ret ?_
                  refine post_ret_block ?_
                  refine post_ret_then ?_
                  refine post_ret_then ?_
                  refine post_ret_block ?_
                  refine post_ret_then ?_
                  refine post_ret (rs := [.tmp 2]) rfl (List.Perm.refl _) (.cons (.tmp rfl) .nil) (List.nil_sublist _) ?_
                  exact ⟨by rw [badN1_eq, any_at_true k hlt h42]; simp [outV], rfl⟩
                · have h42' : badN1 ts[k] = false := by simpa using h42
                  rw [h42']
                  refine op_v (v_not rfl) rfl ?_
                  refine ops_nil ?_
                  refine post_next ?_
                  refine code_cond_f rfl ?_
                  refine code_skip ?_
                  refine post_out ?_
                  refine post_next ?_
                  refine code_region ?_
                  refine op_v (v_move rfl) rfl ?_
                  refine op_v (v_addb rfl rfl rfl (by omega)) rfl ?_
                  refine op_v (v_assign rfl) rfl ?_
                  refine ops_nil ?_
                  refine post_again (ts.length - (k + 1)) [(1, .pointer (some ⟨b1, 0, none⟩)), (3, .int .i64 ((k + 1 : Nat) : Int))] (by omega) ⟨k + 1, rfl, hlt, rfl, Imm.le_trans hI0 hI41, rfl, ?_⟩ ⟨rfl, rfl, trivial⟩
                  intro i h hi
                  rcases Nat.lt_or_ge i k with hik | hik
                  · exact hp i h hik
                  have hik2 : i = k := by omega
                  subst hik2
                  exact h42'
              · have hge : k = ts.length := by simp at hc1; omega
                refine code_exit ?_
                refine post_exit_then ?_
                refine post_exit_then ?_
                refine post_exit ?_
                refine post_next ?_
                refine code_seq ?_
                refine code_region ?_
                refine op_v (v_assign rfl) rfl ?_
                refine ops_nil ?_
                refine post_next ?_
                refine code_ret ?_
                refine post_ret (rs := [.tmp 2]) rfl (List.Perm.refl _) (.cons (.tmp rfl) .nil) (List.nil_sublist _) ?_
                exact ⟨by rw [badN1_eq, any_all_false (fun i hi => hp i hi (by omega)), hno]; rfl, rfl⟩
    · refine op_v (v_cmpfA rfl rfl rfl) rfl ?_
      refine op_v (v_move rfl) rfl ?_
      refine op_skip rfl rfl (by simp [undef]) rfl ?_
      refine op_skip rfl rfl (by simp [undef]) rfl ?_
      refine op_skip rfl rfl (by simp [undef]) rfl ?_
      refine op_skip rfl rfl (by simp [undef]) rfl ?_
      refine op_v (v_pickf rfl rfl) rfl ?_
      refine op_v (v_move rfl) rfl ?_
      first
        | (refine op_want rfl rfl ?_
           refine op_v (v_fieldB 0 Tryz.underlying48 rfl rfl fz3 rfl) rfl ?_)
        | (refine op_skip rfl rfl (by simp [undef]) rfl ?_)
      refine op_want rfl rfl ?_
      refine op_v (v_loadA ty3 rfl rfl) rfl ?_
      by_cases h16 : h < -256
      · first
          | (refine op_want rfl rfl ?_
             refine op_v (v_cmptA rfl rfl rfl) rfl ?_)
          | (refine op_skip rfl rfl (by simp [undef]) rfl ?_)
        refine op_v (v_pickf rfl rfl) rfl ?_
        refine op_v (v_move rfl) rfl ?_
        refine op_skip rfl rfl (by simp [undef]) rfl ?_
        refine op_skip rfl rfl (by simp [undef]) rfl ?_
        refine op_skip rfl rfl (by simp [undef]) rfl ?_
        refine op_v (v_pickt rfl rfl) rfl ?_
        refine op_v (v_move rfl) rfl ?_
        refine op_skip rfl rfl (by simp [undef]) rfl ?_
        refine op_skip rfl rfl (by simp [undef]) rfl ?_
        refine op_skip rfl rfl (by simp [undef]) rfl ?_
        refine op_skip rfl rfl (by simp [undef]) rfl ?_
        refine op_v (v_pickt rfl rfl) rfl ?_
        refine ops_nil ?_
        refine post_next ?_
        refine code_cond_t rfl ?_
        refine code_seq ?_
        refine code_region ?_
        refine op_v (v_assign rfl) rfl ?_
        refine ops_nil ?_
        refine post_next ?_
        refine code_ret ?_
        refine post_ret_then ?_
        refine post_ret (rs := [.tmp 2]) rfl (List.Perm.refl _) (.cons (.tmp rfl) .nil) (List.nil_sublist _) ?_
        exact ⟨by rw [hbn (badN_iff.2 (.inr (.inl h16)))]; rfl, rfl⟩
      · first
          | (refine op_want rfl rfl ?_
             refine op_v (v_cmpfA rfl rfl rfl) rfl ?_)
          | (refine op_skip rfl rfl (by simp [undef]) rfl ?_)
        refine op_v (v_pickf rfl rfl) rfl ?_
        refine op_v (v_move rfl) rfl ?_
        first
          | (refine op_want rfl rfl ?_
             refine op_v (v_fieldB 0 Tryz.underlying48 rfl rfl fz3 rfl) rfl ?_)
          | (refine op_skip rfl rfl (by simp [undef]) rfl ?_)
        refine op_want rfl rfl ?_
        refine op_v (v_loadA ty3 rfl rfl) rfl ?_
        by_cases h21 : 1023 < h
        · first
            | (refine op_want rfl rfl ?_
               refine op_v (v_cmptA rfl rfl rfl) rfl ?_)
            | (refine op_skip rfl rfl (by simp [undef]) rfl ?_)
          refine op_v (v_pickf rfl rfl) rfl ?_
          refine op_v (v_move rfl) rfl ?_
          refine op_skip rfl rfl (by simp [undef]) rfl ?_
          refine op_skip rfl rfl (by simp [undef]) rfl ?_
          refine op_skip rfl rfl (by simp [undef]) rfl ?_
          refine op_skip rfl rfl (by simp [undef]) rfl ?_
          refine op_v (v_pickt rfl rfl) rfl ?_
          refine ops_nil ?_
          refine post_next ?_
          refine code_cond_t rfl ?_
          refine code_seq ?_
          refine code_region ?_
          refine op_v (v_assign rfl) rfl ?_
          refine ops_nil ?_
          refine post_next ?_
          refine code_ret ?_
          refine post_ret_then ?_
          refine post_ret (rs := [.tmp 2]) rfl (List.Perm.refl _) (.cons (.tmp rfl) .nil) (List.nil_sublist _) ?_
          exact ⟨by rw [hbn (badN_iff.2 (.inr (.inr (.inl h21))))]; rfl, rfl⟩
        · first
            | (refine op_want rfl rfl ?_
               refine op_v (v_cmpfA rfl rfl rfl) rfl ?_)
            | (refine op_skip rfl rfl (by simp [undef]) rfl ?_)
          refine op_v (v_pickf rfl rfl) rfl ?_
          refine op_v (v_move rfl) rfl ?_
          first
            | (refine op_want rfl rfl ?_
               refine op_v (v_fieldB 1 Tryz.underlying48 rfl rfl fz46 rfl) rfl ?_)
            | (refine op_skip rfl rfl (by simp [undef]) rfl ?_)
          refine op_want rfl rfl ?_
          refine op_v (v_loadA ty46 rfl rfl) rfl ?_
          refine op_want rfl rfl ?_
          refine op_v (v_len Tryz.underlying46 rfl) rfl ?_
          by_cases h27 : 8 < ts.length
          · first
              | (refine op_want rfl rfl ?_
                 refine op_v (v_cmptA rfl rfl rfl) rfl ?_)
              | (refine op_skip rfl rfl (by simp [undef]) rfl ?_)
            refine op_v (v_pickf rfl rfl) rfl ?_
            refine ops_nil ?_
            refine post_next ?_
            refine code_cond_t rfl ?_
            refine code_seq ?_
            refine code_region ?_
            refine op_v (v_assign rfl) rfl ?_
            refine ops_nil ?_
            refine post_next ?_
            refine code_ret ?_
            refine post_ret_then ?_
            refine post_ret (rs := [.tmp 2]) rfl (List.Perm.refl _) (.cons (.tmp rfl) .nil) (List.nil_sublist _) ?_
            exact ⟨by rw [hbn (badN_iff.2 (.inr (.inr (.inr h27))))]; rfl, rfl⟩
          · have hno : badN (1, .mk h ts) = false := by { cases hq : badN (1, .mk h ts); rfl; rw [badN_iff] at hq; omega }
            first
              | (refine op_want rfl rfl ?_
                 refine op_v (v_cmpfA rfl rfl rfl) rfl ?_)
              | (refine op_skip rfl rfl (by simp [undef]) rfl ?_)
            refine op_v (v_pickf rfl rfl) rfl ?_
            refine ops_nil ?_
            refine post_next ?_
            refine code_cond_f rfl ?_
            refine code_skip ?_
            refine post_next ?_
            refine code_seq ?_
            refine code_seq ?_
            refine code_region ?_
            refine op_v (v_assign rfl) rfl ?_
            refine ops_nil ?_
            refine post_next ?_
            refine code_block ?_
            refine code_loop (fun m σ' I' δ' => ∃ k : Nat, m = ts.length - k ∧ k ≤ ts.length ∧ σ' = [(1, .pointer (some ⟨b1, 0, none⟩)), (3, .int .i64 k)] ∧ I.le I' ∧ δ' = [.box b1 48 [.int .i64 h, .slice ad ts.length c]] ∧ ∀ i (h : i < ts.length), i < k → badN1 ts[i] = false) ts.length [(1, .pointer (some ⟨b1, 0, none⟩)), (3, .int .i64 (0 : Nat))] ⟨0, rfl, Nat.zero_le _, rfl, Imm.le_refl _, rfl, fun i _ h => by omega⟩ ⟨rfl, rfl, trivial⟩ ?_
            rintro m _ I0 _ ⟨k, rfl, hk, rfl, hI0, rfl, hp⟩
            refine code_seq ?_
            refine code_seq ?_
            refine code_region ?_
            refine op_v (v_move rfl) rfl ?_
            refine op_v (v_fieldB 1 Tryz.underlying48 rfl rfl fz46 rfl) rfl ?_
            refine op_v (v_loadA ty46 rfl rfl) rfl ?_
            refine op_v (v_len Tryz.underlying46 rfl) rfl ?_
            refine op_v (v_cmp rfl rfl rfl) rfl ?_
            refine ops_nil ?_
            refine post_next ?_
            refine code_cond rfl (fun hc1 => ?_) (fun hc1 => ?_)
            · have hlt : k < ts.length := by simpa using hc1
              have hs1 := (hat k hlt).isSome
              have hm := sizeL_mem ts k hlt
              refine code_skip ?_
              refine post_next ?_
              refine code_seq ?_
              refine code_block ?_
              refine code_seq ?_
              refine code_region ?_
              refine op_v (v_fieldB 1 Tryz.underlying48 rfl rfl fz46 rfl) rfl ?_
              refine op_v (v_loadA ty46 rfl rfl) rfl ?_
              refine op_v (v_move rfl) rfl ?_
              refine op_v (v_indexA Tryz.underlying46 sz48 rfl rfl) rfl ?_
              refine op_v (v_loadI0 ty48 ((hat k hlt).mono hI0) rfl rfl rfl) rfl ?_
              refine op_call pl162 rfl rfl ((ih ts[k] (by omega) _ _ ((hsub k hlt).mono hI0))) Parts.none ?_
              rintro _ I41 _ hI41 ⟨rfl, rfl⟩
              by_cases h42 : badN1 ts[k] = true
              · rw [h42]
                refine op_v (v_not rfl) rfl ?_
                refine ops_nil ?_
                refine post_next ?_
                refine code_cond_t rfl ?_
                refine code_seq ?_
                refine code_region ?_
                refine op_v (v_assign rfl) rfl ?_
                refine ops_nil ?_
                refine post_next ?_
                refine code_ret ?_
                refine post_ret_block ?_
                refine post_ret_then ?_
                refine post_ret_then ?_
                refine post_ret_block ?_
                refine post_ret_then ?_
                refine post_ret (rs := [.tmp 2]) rfl (List.Perm.refl _) (.cons (.tmp rfl) .nil) (List.nil_sublist _) ?_
                exact ⟨by rw [badN1_eq, any_at_true k hlt h42]; simp [outV], rfl⟩
              · have h42' : badN1 ts[k] = false := by simpa using h42
                rw [h42']
                refine op_v (v_not rfl) rfl ?_
                refine ops_nil ?_
                refine post_next ?_
                refine code_cond_f rfl ?_
                refine code_skip ?_
                refine post_out ?_
                refine post_next ?_
                refine code_region ?_
                refine op_v (v_move rfl) rfl ?_
                refine op_v (v_addb rfl rfl rfl (by omega)) rfl ?_
                refine op_v (v_assign rfl) rfl ?_
                refine ops_nil ?_
                refine post_again (ts.length - (k + 1)) [(1, .pointer (some ⟨b1, 0, none⟩)), (3, .int .i64 ((k + 1 : Nat) : Int))] (by omega) ⟨k + 1, rfl, hlt, rfl, Imm.le_trans hI0 hI41, rfl, ?_⟩ ⟨rfl, rfl, trivial⟩
                intro i h hi
                rcases Nat.lt_or_ge i k with hik | hik
                · exact hp i h hik
                have hik2 : i = k := by omega
                subst hik2
                exact h42'
            · have hge : k = ts.length := by simp at hc1; omega
              refine code_exit ?_
              refine post_exit_then ?_
              refine post_exit_then ?_
              refine post_exit ?_
              refine post_next ?_
              refine code_seq ?_
              refine code_region ?_
              refine op_v (v_assign rfl) rfl ?_
              refine ops_nil ?_
              refine post_next ?_
              refine code_ret ?_
              refine post_ret (rs := [.tmp 2]) rfl (List.Perm.refl _) (.cons (.tmp rfl) .nil) (List.nil_sublist _) ?_
              exact ⟨by rw [badN1_eq, any_all_false (fun i hi => hp i hi (by omega)), hno]; rfl, rfl⟩
theorem RCheck_does {I : Imm} {v : Value} {t : T} (hv : RepT I v t) (hbig : t.size ≤ 1000000000) :
    Does Tryz.prog 133 [v] I [] (fun v I' δ' => v = .int .i64 (chkT t) ∧ δ' = []) := by
  have hd := depT_size t
  obtain ⟨a0, c0, rfl, hr0⟩ := hv.shape
  refine Does.intro Tryz.func133 rfl Tryz.ntmps133 rfl fun w0 => ?_
  refine code_seq ?_
  refine code_region ?_
  refine o_box rfl rfl rfl (fun b1 => ?_)
  refine op_v (v_assign rfl) rfl ?_
  refine ops_nil ?_
  refine post_next ?_
  refine code_seq ?_
  refine code_seq ?_
  refine code_region ?_
  refine op_v (v_loadA ty48 rfl rfl) rfl ?_
  refine op_call pl160 rfl rfl ((Size_does _ _ (Nat.le_refl _) hbig _ _ (hv.mono Imm.leA))) Parts.none ?_
  rintro _ I4 _ hI4 ⟨rfl, rfl⟩
  by_cases h5 : 400 < t.size
  · refine op_v (v_cmptA rfl rfl rfl) rfl ?_
    refine ops_nil ?_
    refine post_next ?_
    refine code_cond_t rfl ?_
    refine code_seq ?_
    refine code_region ?_
    refine op_v (v_assign rfl) rfl ?_
    refine ops_nil ?_
    refine post_next ?_
    refine code_ret ?_
    refine post_ret_then ?_
    refine post_ret (rs := [.tmp 2]) rfl (List.Perm.refl _) (.cons (.tmp rfl) .nil) (List.nil_sublist _) ?_
    exact ⟨by unfold chkT; rw [if_pos h5]; rfl, rfl⟩
  · refine op_v (v_cmpfA rfl rfl rfl) rfl ?_
    refine ops_nil ?_
    refine post_next ?_
    refine code_cond_f rfl ?_
    refine code_skip ?_
    refine post_next ?_
    refine code_seq ?_
    refine code_seq ?_
    refine code_region ?_
    refine op_v (v_loadA ty48 rfl rfl) rfl ?_
    refine op_call pl161 rfl rfl ((Depth_does _ _ (Nat.le_refl _) hbig _ _ (hv.mono Imm.leA))) Parts.none ?_
    rintro _ I7 _ hI7 ⟨rfl, rfl⟩
    by_cases h8 : 40 < depT t
    · refine op_v (v_cmptA rfl rfl rfl) rfl ?_
      refine ops_nil ?_
      refine post_next ?_
      refine code_cond_t rfl ?_
      refine code_seq ?_
      refine code_region ?_
      refine op_v (v_assign rfl) rfl ?_
      refine ops_nil ?_
      refine post_next ?_
      refine code_ret ?_
      refine post_ret_then ?_
      refine post_ret (rs := [.tmp 2]) rfl (List.Perm.refl _) (.cons (.tmp rfl) .nil) (List.nil_sublist _) ?_
      exact ⟨by unfold chkT; rw [if_neg h5, if_pos h8]; rfl, rfl⟩
    · refine op_v (v_cmpfA rfl rfl rfl) rfl ?_
      refine ops_nil ?_
      refine post_next ?_
      refine code_cond_f rfl ?_
      refine code_skip ?_
      refine post_next ?_
      refine code_seq ?_
      refine code_seq ?_
      refine code_region ?_
      refine op_v (v_loadA ty48 rfl rfl) rfl ?_
      refine op_call pl162 rfl rfl ((good_does _ _ (Nat.le_refl _) _ _ (hv.mono Imm.leA))) Parts.none ?_
      rintro _ I10 _ hI10 ⟨rfl, rfl⟩
      by_cases h11 : badN1 t = true
      · rw [h11]
        refine op_v (v_not rfl) rfl ?_
        refine ops_nil ?_
        refine post_next ?_
        refine code_cond_t rfl ?_
        refine code_seq ?_
        refine code_region ?_
        refine op_v (v_assign rfl) rfl ?_
        refine ops_nil ?_
        refine post_next ?_
        refine code_ret ?_
        refine post_ret_then ?_
        refine post_ret (rs := [.tmp 2]) rfl (List.Perm.refl _) (.cons (.tmp rfl) .nil) (List.nil_sublist _) ?_
        exact ⟨by unfold chkT; rw [if_neg h5, if_neg h8, if_pos (show (partsT 1 t).any badN = true from h11)]; rfl, rfl⟩
      · have h11' : badN1 t = false := by simpa using h11
        rw [h11']
        refine op_v (v_not rfl) rfl ?_
        refine ops_nil ?_
        refine post_next ?_
        refine code_cond_f rfl ?_
        refine code_skip ?_
        refine post_next ?_
        refine code_seq ?_
        refine code_region ?_
        refine op_v (v_assign rfl) rfl ?_
        refine ops_nil ?_
        refine post_next ?_
        refine code_ret ?_
        refine post_ret (rs := [.tmp 2]) rfl (List.Perm.refl _) (.cons (.tmp rfl) .nil) (List.nil_sublist _) ?_
        exact ⟨by unfold chkT; rw [if_neg h5, if_neg h8, if_neg (show ¬ (partsT 1 t).any badN = true by { rw [show (partsT 1 t).any badN = false from h11']; simp })]; rfl, rfl⟩
theorem known_does {gs : List Sy} : ∀ (n : Nat) (t : T), t.size ≤ n → chkT t = 0 → ∀ (I : Imm) (vg v : Value), RepG I vg gs → RepT I v t →
    Does Tryz.prog 139 [vg, v] I [] (fun v I' δ' => v = .bool (!unkG gs t) ∧ δ' = []) := by
  intro n
  induction n with
  | zero => intro t ht; have := t.size_pos; omega
  | succ n ih =>
    intro t ht hck I vg v hg hv
    obtain ⟨h, ts⟩ := t
    obtain ⟨ga, gc, rfl⟩ := hg.shape
    obtain ⟨_, hgc, hgb, hgat, hgok⟩ := hg.open
    obtain ⟨ad, c, ss, rfl, hr, hc, hb, hat, hsub⟩ := hv.elim
    have hsz : (T.mk h ts).size = 1 + sizeL ts := by simp [T.size]
    obtain ⟨hlf, hch⟩ := chkT_args hck
    have hun : unkB gs (true, .mk h ts) = true → unkG gs (.mk h ts) = true := fun q => by rw [unkG_eq, q]; rfl
    refine Does.intro Tryz.func139 rfl Tryz.ntmps139 rfl fun w0 => ?_
    refine code_seq ?_
    refine code_region ?_
    refine o_box rfl rfl rfl (fun b3 => ?_)
    refine op_v (v_assign rfl) rfl ?_
    refine ops_nil ?_
    refine post_next ?_
    refine code_seq ?_
    refine code_seq ?_
    refine code_region ?_
    refine op_v (v_fieldB 0 Tryz.underlying48 rfl rfl fz3 rfl) rfl ?_
    refine op_v (v_loadA ty3 rfl rfl) rfl ?_
    by_cases h8 : h < 0
    · refine op_v (v_cmptA rfl rfl rfl) rfl ?_
      refine ops_nil ?_
      refine post_next ?_
      refine code_cond_t rfl ?_
      refine code_seq ?_
      refine code_region ?_
      refine op_v (v_assign rfl) rfl ?_
      refine ops_nil ?_
      refine post_next ?_
      refine code_ret ?_
      refine post_ret_then ?_
      refine post_ret (rs := [.tmp 4]) rfl (List.Perm.refl _) (.cons (.tmp rfl) .nil) (List.nil_sublist _) ?_
      have hl := hlf h8
      subst hl
      have : unkG gs (.mk h []) = false := by { rw [unkG_eq]; have : ¬ 0 ≤ h := by { omega }; simp [unkB, T.head, T.args, this] }
      exact ⟨by rw [this]; rfl, rfl⟩
    · refine op_v (v_cmpfA rfl rfl rfl) rfl ?_
      refine ops_nil ?_
      refine post_next ?_
      refine code_cond_f rfl ?_
      refine code_skip ?_
      refine post_next ?_
      refine code_seq ?_
      refine code_seq ?_
      refine code_draw (.fl 0 (.fl 1 (.fl 2 (.fl 3 (.fl 4 (.fl 5 (.fl 6 (.fl 7 (.fl 8 (.fl 9 (.fl 10 (.fl 11 (.fl 12 (.fl 13 (.fl 14 (.fl 15 (.fl 16 .done))))))))))))))))) (fun _ => _) mixed (by kernel_rfl) (by kernel_rfl) (fun _ => (List.Sublist.refl _)) ?_
      refine e_fl rfl rfl (fun hs_ => PF.mk rfl (v_fieldB 0 Tryz.underlying48 rfl rfl fz3 rfl) hs_) ?_
      refine e_fl rfl rfl (fun hs_ => PF.mk rfl (v_loadA ty3 rfl rfl) hs_) ?_
      refine e_fl rfl rfl (fun hs_ => PF.mk rfl (v_move rfl) hs_) ?_
      refine e_fl rfl rfl (fun hs_ => PF.mk rfl (v_len Tryz.underlying22 rfl) hs_) ?_
      by_cases h13 : (gs.length : Int) ≤ h
      · refine e_fl rfl rfl (fun hs_ => PF.mk rfl (v_cmptA rfl rfl rfl) hs_) ?_
        refine e_fl rfl rfl (fun hs_ => PF.mk rfl (v_move rfl) hs_) ?_
        refine e_fl rfl rfl (fun hs_ => PF.mks rfl (by intro c hc; cases hc) rfl rfl (by simp [undef]) hs_) ?_
        refine e_fl rfl rfl (fun hs_ => PF.mks rfl (by intro c hc; cases hc) rfl rfl (by simp [undef]) hs_) ?_
        refine e_fl rfl rfl (fun hs_ => PF.mks rfl (by intro c hc; cases hc) rfl rfl (by simp [undef]) hs_) ?_
        refine e_fl rfl rfl (fun hs_ => PF.mks rfl (by intro c hc; cases hc) rfl rfl (by simp [undef]) hs_) ?_
        refine e_fl rfl rfl (fun hs_ => PF.mks rfl (by intro c hc; cases hc) rfl rfl (by simp [undef]) hs_) ?_
        refine e_fl rfl rfl (fun hs_ => PF.mks rfl (by intro c hc; cases hc) rfl rfl (by simp [undef]) hs_) ?_
        refine e_fl rfl rfl (fun hs_ => PF.mks rfl (by intro c hc; cases hc) rfl rfl (by simp [undef]) hs_) ?_
        refine e_fl rfl rfl (fun hs_ => PF.mks rfl (by intro c hc; cases hc) rfl rfl (by simp [undef]) hs_) ?_
        refine e_fl rfl rfl (fun hs_ => PF.mks rfl (by intro c hc; cases hc) rfl rfl (by simp [undef]) hs_) ?_
        refine e_fl rfl rfl (fun hs_ => PF.mks rfl (by intro c hc; cases hc) rfl rfl (by simp [undef]) hs_) ?_
        refine e_fl rfl rfl (fun hs_ => PF.mk rfl (v_pickt rfl rfl) hs_) ?_
        refine e_done ?_
        refine post_next ?_
        refine code_cond_t rfl ?_
        refine code_seq ?_
        refine code_region ?_
        refine op_v (v_assign rfl) rfl ?_
        refine ops_nil ?_
        refine post_next ?_
        refine code_ret ?_
        refine post_ret_then ?_
        refine post_ret (rs := [.tmp 4]) rfl (List.Perm.refl _) (.cons (.tmp rfl) .nil) (List.nil_sublist _) ?_
        exact ⟨by rw [hun (unkB_iff.2 ⟨by omega, .inl h13⟩)]; rfl, rfl⟩
      · have hlt0 : h.toNat < gs.length := by omega
        have hs0 := (hgat _ hlt0).isSome
        have hgat1 : ∀ J, I.le J → At J ga (h.toNat * 4) [.string gs[h.toNat].name, .int .i64 gs[h.toNat].ar, .int .i64 gs[h.toNat].wt, .bool gs[h.toNat].tr] := fun J hJ => (hgat _ hlt0).mono hJ
        refine e_fl rfl rfl (fun hs_ => PF.mk rfl (v_cmpfA rfl rfl rfl) hs_) ?_
        refine e_fl rfl rfl (fun hs_ => PF.mk rfl (v_move rfl) hs_) ?_
        refine e_fl rfl rfl (fun hs_ => PF.mkg rfl rfl rfl (v_fieldB 1 Tryz.underlying48 rfl rfl fz46 rfl) hs_) ?_
        refine e_fl rfl rfl (fun hs_ => PF.mkg rfl rfl rfl (v_loadA ty46 rfl rfl) hs_) ?_
        refine e_fl rfl rfl (fun hs_ => PF.mkg rfl rfl rfl (v_len Tryz.underlying46 rfl) hs_) ?_
        refine e_fl rfl rfl (fun hs_ => PF.mkg rfl rfl rfl (v_move rfl) hs_) ?_
        refine e_fl rfl rfl (fun hs_ => PF.mkg rfl rfl rfl (v_fieldB 0 Tryz.underlying48 rfl rfl fz3 rfl) hs_) ?_
        refine e_fl rfl rfl (fun hs_ => PF.mkg rfl rfl rfl (v_loadA ty3 rfl rfl) hs_) ?_
        refine e_fl rfl rfl (fun hs_ => PF.mkg rfl rfl rfl (v_indexIA Tryz.underlying22 sz85 rfl rfl) hs_) ?_
        refine e_fl rfl rfl (fun hs_ => PF.mkg rfl rfl rfl (v_fieldI 1 Tryz.underlying85 rfl rfl fz3 rfl (by assumption)) hs_) ?_
        refine e_fl rfl rfl (fun hs_ => PF.mkg rfl rfl rfl (v_loadI ty3 (hgat _ hlt0) rfl rfl rfl) hs_) ?_
        by_cases h24 : (ts.length : Int) ≠ (gs[h.toNat]'hlt0).ar
        · refine e_fl rfl rfl (fun hs_ => PF.mkg rfl rfl rfl (v_cmptA rfl rfl rfl) hs_) ?_
          refine e_fl rfl rfl (fun hs_ => PF.mk rfl (v_pickf rfl rfl) hs_) ?_
          refine e_done ?_
          refine post_next ?_
          refine code_cond_t rfl ?_
          refine code_seq ?_
          refine code_region ?_
          refine op_v (v_assign rfl) rfl ?_
          refine ops_nil ?_
          refine post_next ?_
          refine code_ret ?_
          refine post_ret_then ?_
          refine post_ret (rs := [.tmp 4]) rfl (List.Perm.refl _) (.cons (.tmp rfl) .nil) (List.nil_sublist _) ?_
          exact ⟨by rw [hun (unkB_iff.2 ⟨by omega, .inr (by rw [arG_at (gs := gs) (h := h) (by omega) (by omega)]; exact h24)⟩)]; rfl, rfl⟩
        · have hno : unkB gs (true, .mk h ts) = false := by { cases hq : unkB gs (true, .mk h ts); rfl; rw [unkB_iff] at hq; rw [arG_at (gs := gs) (h := h) (by omega) (by omega)] at hq; omega }
          refine e_fl rfl rfl (fun hs_ => PF.mkg rfl rfl rfl (v_cmpfA rfl rfl rfl) hs_) ?_
          refine e_fl rfl rfl (fun hs_ => PF.mk rfl (v_pickf rfl rfl) hs_) ?_
          refine e_done ?_
          refine post_next ?_
          refine code_cond_f rfl ?_
          refine code_skip ?_
          refine post_next ?_
          refine code_seq ?_
          refine code_seq ?_
          refine code_region ?_
          refine op_v (v_assign rfl) rfl ?_
          refine ops_nil ?_
          refine post_next ?_
          refine code_block ?_
          refine code_loop (fun m σ' I' δ' => ∃ k : Nat, m = ts.length - k ∧ k ≤ ts.length ∧ σ' = [(0, .slice ga gs.length gc), (3, .pointer (some ⟨b3, 0, none⟩)), (5, .int .i64 k)] ∧ I.le I' ∧ δ' = [.box b3 48 [.int .i64 h, .slice ad ts.length c]] ∧ ∀ i (h : i < ts.length), i < k → unkG gs ts[i] = false) ts.length [(0, .slice ga gs.length gc), (3, .pointer (some ⟨b3, 0, none⟩)), (5, .int .i64 (0 : Nat))] ⟨0, rfl, Nat.zero_le _, rfl, Imm.le_refl _, rfl, fun i _ h => by omega⟩ ⟨rfl, rfl, rfl, trivial⟩ ?_
          rintro m _ I0 _ ⟨k, rfl, hk, rfl, hI0, rfl, hp⟩
          refine code_seq ?_
          refine code_seq ?_
          refine code_region ?_
          refine op_v (v_move rfl) rfl ?_
          refine op_v (v_fieldB 1 Tryz.underlying48 rfl rfl fz46 rfl) rfl ?_
          refine op_v (v_loadA ty46 rfl rfl) rfl ?_
          refine op_v (v_len Tryz.underlying46 rfl) rfl ?_
          refine op_v (v_cmp rfl rfl rfl) rfl ?_
          refine ops_nil ?_
          refine post_next ?_
          refine code_cond rfl (fun hc2 => ?_) (fun hc2 => ?_)
          · have hlt : k < ts.length := by simpa using hc2
            have hs1 := (hat k hlt).isSome
            have hm := sizeL_mem ts k hlt
            refine code_skip ?_
            refine post_next ?_
            refine code_seq ?_
            refine code_block ?_
            refine code_seq ?_
            refine code_region ?_
            refine op_v (v_move rfl) rfl ?_
            refine op_v (v_fieldB 1 Tryz.underlying48 rfl rfl fz46 rfl) rfl ?_
            refine op_v (v_loadA ty46 rfl rfl) rfl ?_
            refine op_v (v_move rfl) rfl ?_
            refine op_v (v_indexA Tryz.underlying46 sz48 rfl rfl) rfl ?_
            refine op_v (v_loadI0 ty48 ((hat k hlt).mono hI0) rfl rfl rfl) rfl ?_
            refine op_call pl139 rfl rfl ((ih ts[k] (by omega) (hch k hlt) _ _ _ (hg.mono hI0) ((hsub k hlt).mono hI0))) Parts.none ?_
            rintro _ I39 _ hI39 ⟨rfl, rfl⟩
            by_cases h40 : unkG gs ts[k] = true
            · rw [h40]
              refine op_v (v_not rfl) rfl ?_
              refine ops_nil ?_
              refine post_next ?_
              refine code_cond_t rfl ?_
              refine code_seq ?_
              refine code_region ?_
              refine op_v (v_assign rfl) rfl ?_
              refine ops_nil ?_
              refine post_next ?_
              refine code_ret ?_
              refine post_ret_block ?_
              refine post_ret_then ?_
              refine post_ret_then ?_
              refine post_ret_block ?_
              refine post_ret_then ?_
              refine post_ret (rs := [.tmp 4]) rfl (List.Perm.refl _) (.cons (.tmp rfl) .nil) (List.nil_sublist _) ?_
              exact ⟨by rw [unkG_eq, show (T.mk h ts).args = ts from rfl, any_at_true k hlt h40]; simp [outV], rfl⟩
            · have h40' : unkG gs ts[k] = false := by simpa using h40
              rw [h40']
              refine op_v (v_not rfl) rfl ?_
              refine ops_nil ?_
              refine post_next ?_
              refine code_cond_f rfl ?_
              refine code_skip ?_
              refine post_out ?_
              refine post_next ?_
              refine code_region ?_
              refine op_v (v_move rfl) rfl ?_
              refine op_v (v_addb rfl rfl rfl (by omega)) rfl ?_
              refine op_v (v_assign rfl) rfl ?_
              refine ops_nil ?_
              refine post_again (ts.length - (k + 1)) [(0, .slice ga gs.length gc), (3, .pointer (some ⟨b3, 0, none⟩)), (5, .int .i64 ((k + 1 : Nat) : Int))] (by omega) ⟨k + 1, rfl, hlt, rfl, Imm.le_trans hI0 hI39, rfl, ?_⟩ ⟨rfl, rfl, rfl, trivial⟩
              intro i h hi
              rcases Nat.lt_or_ge i k with hik | hik
              · exact hp i h hik
              have hik2 : i = k := by omega
              subst hik2
              exact h40'
          · have hge : k = ts.length := by simp at hc2; omega
            refine code_exit ?_
            refine post_exit_then ?_
            refine post_exit_then ?_
            refine post_exit ?_
            refine post_next ?_
            refine code_seq ?_
            refine code_region ?_
            refine op_v (v_assign rfl) rfl ?_
            refine ops_nil ?_
            refine post_next ?_
            refine code_ret ?_
            refine post_ret (rs := [.tmp 4]) rfl (List.Perm.refl _) (.cons (.tmp rfl) .nil) (List.nil_sublist _) ?_
            exact ⟨by rw [unkG_eq, show (T.mk h ts).args = ts from rfl, any_all_false (fun i hi => hp i hi (by omega)), hno]; rfl, rfl⟩
theorem Truth_does {I : Imm} {vg v : Value} {gs : List Sy} {t : T} (hg : RepG I vg gs) (hv : RepT I v t) :
    Does Tryz.prog 116 [vg, v] I [] (fun v I' δ' => v = .bool (truG gs t) ∧ δ' = []) := by
  obtain ⟨ga, gc, rfl⟩ := hg.shape
  obtain ⟨_, hgc, hgb, hgat, hgok⟩ := hg.open
  obtain ⟨a0, c0, rfl, hr0⟩ := hv.shape
  refine Does.intro Tryz.func116 rfl Tryz.ntmps116 rfl fun w0 => ?_
  refine code_seq ?_
  refine code_region ?_
  refine o_box rfl rfl rfl (fun b3 => ?_)
  refine op_v (v_assign rfl) rfl ?_
  refine ops_nil ?_
  refine post_next ?_
  refine code_seq ?_
  refine code_region ?_
  refine op_v (v_fieldB 0 Tryz.underlying48 rfl rfl fz3 rfl) rfl ?_
  refine op_v (v_loadA ty3 rfl rfl) rfl ?_
  by_cases h7 : 0 ≤ t.head
  · refine op_v (v_cmptA rfl rfl rfl) rfl ?_
    refine op_v (v_move rfl) rfl ?_
    first
      | (refine op_want rfl rfl ?_
         refine op_v (v_fieldB 0 Tryz.underlying48 rfl rfl fz3 rfl) rfl ?_)
      | (refine op_skip rfl rfl (by simp [undef]) rfl ?_)
    refine op_want rfl rfl ?_
    refine op_v (v_loadA ty3 rfl rfl) rfl ?_
    refine op_want rfl rfl ?_
    refine op_v (v_move rfl) rfl ?_
    refine op_want rfl rfl ?_
    refine op_v (v_len Tryz.underlying22 rfl) rfl ?_
    by_cases h13 : t.head < (gs.length : Int)
    · have hlt0 : t.head.toNat < gs.length := by omega
      have hs0 := (hgat _ hlt0).isSome
      first
        | (refine op_want rfl rfl ?_
           refine op_v (v_cmptA rfl rfl rfl) rfl ?_)
        | (refine op_skip rfl rfl (by simp [undef]) rfl ?_)
      refine op_v (v_pickt rfl rfl) rfl ?_
      refine op_v (v_move rfl) rfl ?_
      refine op_want rfl rfl ?_
      refine op_v (v_move rfl) rfl ?_
      first
        | (refine op_want rfl rfl ?_
           refine op_v (v_fieldB 0 Tryz.underlying48 rfl rfl fz3 rfl) rfl ?_)
        | (refine op_skip rfl rfl (by simp [undef]) rfl ?_)
      refine op_want rfl rfl ?_
      refine op_v (v_loadA ty3 rfl rfl) rfl ?_
      refine op_want rfl rfl ?_
      refine op_v (v_indexIA Tryz.underlying22 sz85 rfl rfl) rfl ?_
      first
        | (refine op_want rfl rfl ?_
           refine op_v (v_fieldI 3 Tryz.underlying85 rfl rfl fz4 rfl (by assumption)) rfl ?_)
        | (refine op_skip rfl rfl (by simp [undef]) rfl ?_)
      refine op_want rfl rfl ?_
      refine op_v (v_loadI ty4 (hgat _ hlt0) rfl rfl rfl) rfl ?_
      refine op_v (v_pickt rfl rfl) rfl ?_
      refine op_v (v_assign rfl) rfl ?_
      refine ops_nil ?_
      refine post_next ?_
      refine code_ret ?_
      refine post_ret (rs := [.tmp 4]) rfl (List.Perm.refl _) (.cons (.tmp rfl) .nil) (List.nil_sublist _) ?_
      exact ⟨by simp [outV, truG, h7, h13, trG_at h7 h13], rfl⟩
    · first
        | (refine op_want rfl rfl ?_
           refine op_v (v_cmpfA rfl rfl rfl) rfl ?_)
        | (refine op_skip rfl rfl (by simp [undef]) rfl ?_)
      refine op_v (v_pickt rfl rfl) rfl ?_
      refine op_v (v_move rfl) rfl ?_
      refine op_skip rfl rfl (by simp [undef]) rfl ?_
      refine op_skip rfl rfl (by simp [undef]) rfl ?_
      refine op_skip rfl rfl (by simp [undef]) rfl ?_
      refine op_skip rfl rfl (by simp [undef]) rfl ?_
      refine op_skip rfl rfl (by simp [undef]) rfl ?_
      refine op_skip rfl rfl (by simp [undef]) rfl ?_
      refine op_v (v_pickf rfl rfl) rfl ?_
      refine op_v (v_assign rfl) rfl ?_
      refine ops_nil ?_
      refine post_next ?_
      refine code_ret ?_
      refine post_ret (rs := [.tmp 4]) rfl (List.Perm.refl _) (.cons (.tmp rfl) .nil) (List.nil_sublist _) ?_
      exact ⟨by simp [outV, truG, h13], rfl⟩
  · refine op_v (v_cmpfA rfl rfl rfl) rfl ?_
    refine op_v (v_move rfl) rfl ?_
    refine op_skip rfl rfl (by simp [undef]) rfl ?_
    refine op_skip rfl rfl (by simp [undef]) rfl ?_
    refine op_skip rfl rfl (by simp [undef]) rfl ?_
    refine op_skip rfl rfl (by simp [undef]) rfl ?_
    refine op_skip rfl rfl (by simp [undef]) rfl ?_
    refine op_v (v_pickf rfl rfl) rfl ?_
    refine op_v (v_move rfl) rfl ?_
    refine op_skip rfl rfl (by simp [undef]) rfl ?_
    refine op_skip rfl rfl (by simp [undef]) rfl ?_
    refine op_skip rfl rfl (by simp [undef]) rfl ?_
    refine op_skip rfl rfl (by simp [undef]) rfl ?_
    refine op_skip rfl rfl (by simp [undef]) rfl ?_
    refine op_skip rfl rfl (by simp [undef]) rfl ?_
    refine op_v (v_pickf rfl rfl) rfl ?_
    refine op_v (v_assign rfl) rfl ?_
    refine ops_nil ?_
    refine post_next ?_
    refine code_ret ?_
    refine post_ret (rs := [.tmp 4]) rfl (List.Perm.refl _) (.cons (.tmp rfl) .nil) (List.nil_sublist _) ?_
    exact ⟨by simp [outV, truG, h7], rfl⟩
theorem things_does {gs : List Sy} : ∀ (n : Nat) (t : T), t.size ≤ n → unkG gs t = false → ∀ (I : Imm) (vg v : Value), RepG I vg gs → RepT I v t →
    Does Tryz.prog 140 [vg, v] I [] (fun v I' δ' => v = .bool (!mixG gs t) ∧ δ' = []) := by
  intro n
  induction n with
  | zero => intro t ht; have := t.size_pos; omega
  | succ n ih =>
    intro t ht hun I vg v hg hv
    obtain ⟨h, ts⟩ := t
    obtain ⟨ga, gc, rfl⟩ := hg.shape
    obtain ⟨ad, c, ss, rfl, hr, hc, hb, hat, hsub⟩ := hv.elim
    have hsz : (T.mk h ts).size = 1 + sizeL ts := by simp [T.size]
    have hch : ∀ k (hk : k < ts.length), unkG gs ts[k] = false := fun k hk => by
      rw [unkG_eq] at hun
      simp only [Bool.or_eq_false_iff] at hun
      have h2 := hun.2
      rw [List.any_eq_false] at h2
      simpa using h2 ts[k] (List.getElem_mem hk)
    refine Does.intro Tryz.func140 rfl Tryz.ntmps140 rfl fun w0 => ?_
    refine code_seq ?_
    refine code_region ?_
    refine o_box rfl rfl rfl (fun b3 => ?_)
    refine op_v (v_assign rfl) rfl ?_
    refine ops_nil ?_
    refine post_next ?_
    refine code_seq ?_
    refine code_seq ?_
    refine code_region ?_
    refine op_v (v_assign rfl) rfl ?_
    refine ops_nil ?_
    refine post_next ?_
    refine code_block ?_
    refine code_loop (fun m σ' I' δ' => ∃ k : Nat, m = ts.length - k ∧ k ≤ ts.length ∧ σ' = [(0, .slice ga gs.length gc), (3, .pointer (some ⟨b3, 0, none⟩)), (5, .int .i64 k)] ∧ I.le I' ∧ δ' = [.box b3 48 [.int .i64 h, .slice ad ts.length c]] ∧ ∀ i (h : i < ts.length), i < k → (mixB gs (false, ts[i]) || mixG gs ts[i]) = false) ts.length [(0, .slice ga gs.length gc), (3, .pointer (some ⟨b3, 0, none⟩)), (5, .int .i64 (0 : Nat))] ⟨0, rfl, Nat.zero_le _, rfl, Imm.le_refl _, rfl, fun i _ h => by omega⟩ ⟨rfl, rfl, rfl, trivial⟩ ?_
    rintro m _ I0 _ ⟨k, rfl, hk, rfl, hI0, rfl, hp⟩
    refine code_seq ?_
    refine code_seq ?_
    refine code_region ?_
    refine op_v (v_move rfl) rfl ?_
    refine op_v (v_fieldB 1 Tryz.underlying48 rfl rfl fz46 rfl) rfl ?_
    refine op_v (v_loadA ty46 rfl rfl) rfl ?_
    refine op_v (v_len Tryz.underlying46 rfl) rfl ?_
    refine op_v (v_cmp rfl rfl rfl) rfl ?_
    refine ops_nil ?_
    refine post_next ?_
    refine code_cond rfl (fun hc0 => ?_) (fun hc0 => ?_)
    · have hlt : k < ts.length := by simpa using hc0
      have hs1 := (hat k hlt).isSome
      have hm := sizeL_mem ts k hlt
      refine code_skip ?_
      refine post_next ?_
      refine code_seq ?_
      refine code_block ?_
      refine code_seq ?_
      refine code_region ?_
      refine op_v (v_move rfl) rfl ?_
      refine op_v (v_fieldB 1 Tryz.underlying48 rfl rfl fz46 rfl) rfl ?_
      refine op_v (v_loadA ty46 rfl rfl) rfl ?_
      refine op_v (v_move rfl) rfl ?_
      refine op_v (v_indexA Tryz.underlying46 sz48 rfl rfl) rfl ?_
      refine op_v (v_loadI0 ty48 ((hat k hlt).mono hI0) rfl rfl rfl) rfl ?_
      refine op_call pl116 rfl rfl ((Truth_does (hg.mono hI0) ((hsub k hlt).mono hI0))) Parts.none ?_
      rintro _ I19 _ hI19 ⟨rfl, rfl⟩
      rw [← mixB_tru (hch k hlt)]
      by_cases h20 : mixB gs (false, ts[k]) = true
      · rw [h20]
        refine op_v (v_move rfl) rfl ?_
        refine op_skip rfl rfl (by simp [undef]) rfl ?_
        refine op_skip rfl rfl (by simp [undef]) rfl ?_
        refine op_skip rfl rfl (by simp [undef]) rfl ?_
        refine op_skip rfl rfl (by simp [undef]) rfl ?_
        refine op_skip rfl rfl (by simp [undef]) rfl ?_
        refine op_skip rfl rfl (by simp [undef]) rfl ?_
        refine op_skip rfl rfl (by simp [undef]) rfl ?_
        refine op_skip rfl rfl (by simp [undef]) rfl ?_
        refine op_v (v_pickt rfl rfl) rfl ?_
        refine ops_nil ?_
        refine post_next ?_
        refine code_cond_t rfl ?_
        refine code_seq ?_
        refine code_region ?_
        refine op_v (v_assign rfl) rfl ?_
        refine ops_nil ?_
        refine post_next ?_
        refine code_ret ?_
        refine post_ret_block ?_
        refine post_ret_then ?_
        refine post_ret_then ?_
        refine post_ret_block ?_
        refine post_ret_then ?_
        refine post_ret (rs := [.tmp 4]) rfl (List.Perm.refl _) (.cons (.tmp rfl) .nil) (List.nil_sublist _) ?_
        exact ⟨by rw [mixG_eq, show (T.mk h ts).args = ts from rfl, any_at_true k hlt (by rw [h20]; rfl)]; rfl, rfl⟩
      · have h20' : mixB gs (false, ts[k]) = false := by simpa using h20
        rw [h20']
        refine op_v (v_move rfl) rfl ?_
        refine op_want rfl rfl ?_
        refine op_v (v_move rfl) rfl ?_
        first
          | (refine op_want rfl rfl ?_
             refine op_v (v_fieldB 1 Tryz.underlying48 rfl rfl fz46 rfl) rfl ?_)
          | (refine op_skip rfl rfl (by simp [undef]) rfl ?_)
        refine op_want rfl rfl ?_
        refine op_v (v_loadA ty46 rfl rfl) rfl ?_
        refine op_want rfl rfl ?_
        refine op_v (v_move rfl) rfl ?_
        first
          | (refine op_want rfl rfl ?_
             refine op_v (v_indexA Tryz.underlying46 sz48 rfl rfl) rfl ?_)
          | (refine op_skip rfl rfl (by simp [undef]) rfl ?_)
        first
          | (refine op_want rfl rfl ?_
             refine op_v (v_loadI0 ty48 (((hat k hlt).mono hI0).mono hI19) rfl rfl rfl) rfl ?_)
          | (refine op_skip rfl rfl (by simp [undef]) rfl ?_)
        refine op_want rfl rfl ?_
        refine op_call pl140 rfl rfl ((ih ts[k] (by omega) (hch k hlt) _ _ _ (hg.mono Imm.leA) ((hsub k hlt).mono Imm.leA))) Parts.none ?_
        rintro _ I27 _ hI27 ⟨rfl, rfl⟩
        by_cases h28 : mixG gs ts[k] = true
        · rw [h28]
          refine op_want rfl rfl ?_
          refine op_v (v_not rfl) rfl ?_
          refine op_v (v_pickf rfl rfl) rfl ?_
          refine ops_nil ?_
          refine post_next ?_
          refine code_cond_t rfl ?_
          refine code_seq ?_
          refine code_region ?_
          refine op_v (v_assign rfl) rfl ?_
          refine ops_nil ?_
          refine post_next ?_
          refine code_ret ?_
          refine post_ret_block ?_
          refine post_ret_then ?_
          refine post_ret_then ?_
          refine post_ret_block ?_
          refine post_ret_then ?_
          refine post_ret (rs := [.tmp 4]) rfl (List.Perm.refl _) (.cons (.tmp rfl) .nil) (List.nil_sublist _) ?_
          exact ⟨by rw [mixG_eq, show (T.mk h ts).args = ts from rfl, any_at_true k hlt (by rw [h28]; simp)]; rfl, rfl⟩
        · have h28' : mixG gs ts[k] = false := by simpa using h28
          rw [h28']
          refine op_want rfl rfl ?_
          refine op_v (v_not rfl) rfl ?_
          refine op_v (v_pickf rfl rfl) rfl ?_
          refine ops_nil ?_
          refine post_next ?_
          refine code_cond_f rfl ?_
          refine code_skip ?_
          refine post_out ?_
          refine post_next ?_
          refine code_region ?_
          refine op_v (v_move rfl) rfl ?_
          refine op_v (v_addb rfl rfl rfl (by omega)) rfl ?_
          refine op_v (v_assign rfl) rfl ?_
          refine ops_nil ?_
          refine post_again (ts.length - (k + 1)) [(0, .slice ga gs.length gc), (3, .pointer (some ⟨b3, 0, none⟩)), (5, .int .i64 ((k + 1 : Nat) : Int))] (by omega) ⟨k + 1, rfl, hlt, rfl, Imm.leA, rfl, ?_⟩ ⟨rfl, rfl, rfl, trivial⟩
          intro i h hi
          rcases Nat.lt_or_ge i k with hik | hik
          · exact hp i h hik
          have hik2 : i = k := by omega
          subst hik2
          rw [h20', h28']; rfl
    · have hge : k = ts.length := by simp at hc0; omega
      refine code_exit ?_
      refine post_exit_then ?_
      refine post_exit_then ?_
      refine post_exit ?_
      refine post_next ?_
      refine code_seq ?_
      refine code_region ?_
      refine op_v (v_assign rfl) rfl ?_
      refine ops_nil ?_
      refine post_next ?_
      refine code_ret ?_
      refine post_ret (rs := [.tmp 4]) rfl (List.Perm.refl _) (.cons (.tmp rfl) .nil) (List.nil_sublist _) ?_
      exact ⟨by rw [mixG_eq, show (T.mk h ts).args = ts from rfl, any_all_false (fun i hi => hp i hi (by omega))]; rfl, rfl⟩
theorem RTerm_does {I : Imm} {vg v : Value} {gs : List Sy} {t : T} (hg : RepG I vg gs) (hv : RepT I v t) (hbig : t.size ≤ 1000000000) :
    Does Tryz.prog 115 [vg, v] I [] (fun v _ δ' => v = .int .i64 (termG gs t) ∧ δ' = []) := by
  obtain ⟨ga, gc, rfl⟩ := hg.shape
  obtain ⟨a0, c0, rfl, hr0⟩ := hv.shape
  refine Does.intro Tryz.func115 rfl Tryz.ntmps115 rfl fun w0 => ?_
  refine code_seq ?_
  refine code_region ?_
  refine o_box rfl rfl rfl (fun b3 => ?_)
  refine op_v (v_assign rfl) rfl ?_
  refine ops_nil ?_
  refine post_next ?_
  refine code_seq ?_
  refine code_seq ?_
  refine code_region ?_
  refine op_v (v_move rfl) rfl ?_
  refine op_call pl70 rfl rfl ((RightR_does (hg.mono Imm.leA))) Parts.none ?_
  rintro _ I7 _ hI7 ⟨rfl, rfl⟩
  by_cases h8 : rightG gs = true
  · rw [h8]
    have hG : chkG gs = 0 := by simp [chkG, h8]
    refine op_v (v_not rfl) rfl ?_
    refine ops_nil ?_
    refine post_next ?_
    refine code_cond_f rfl ?_
    refine code_skip ?_
    refine post_next ?_
    refine code_seq ?_
    refine code_region ?_
    refine op_v (v_loadA ty48 rfl rfl) rfl ?_
    refine op_call pl133 rfl rfl ((RCheck_does (hv.mono Imm.leA) hbig)) Parts.none ?_
    rintro _ I10 _ hI10 ⟨rfl, rfl⟩
    refine op_v (v_assign rfl) rfl ?_
    refine ops_nil ?_
    refine post_next ?_
    refine code_seq ?_
    refine code_seq ?_
    refine code_region ?_
    refine op_v (v_move rfl) rfl ?_
    by_cases h12 : chkT t ≠ 0
    · refine op_v (v_cmptA rfl rfl rfl) rfl ?_
      refine ops_nil ?_
      refine post_next ?_
      refine code_cond_t rfl ?_
      refine code_seq ?_
      refine code_region ?_
      refine op_v (v_move rfl) rfl ?_
      refine op_v (v_assign rfl) rfl ?_
      refine ops_nil ?_
      refine post_next ?_
      refine code_ret ?_
      refine post_ret_then ?_
      refine post_ret (rs := [.tmp 4]) rfl (List.Perm.refl _) (.cons (.tmp rfl) .nil) (List.nil_sublist _) ?_
      exact ⟨by unfold termG; rw [hG, if_neg (by simp), if_pos h12]; rfl, rfl⟩
    · have h0 : chkT t = 0 := by omega
      refine op_v (v_cmpfA rfl rfl rfl) rfl ?_
      refine ops_nil ?_
      refine post_next ?_
      refine code_cond_f rfl ?_
      refine code_skip ?_
      refine post_next ?_
      refine code_seq ?_
      refine code_seq ?_
      refine code_region ?_
      refine op_v (v_move rfl) rfl ?_
      refine op_v (v_loadA ty48 rfl rfl) rfl ?_
      refine op_call pl139 rfl rfl ((known_does _ _ (Nat.le_refl _) h0 _ _ _ (hg.mono Imm.leA) (hv.mono Imm.leA))) Parts.none ?_
      rintro _ I16 _ hI16 ⟨rfl, rfl⟩
      by_cases h17 : unkG gs t = true
      · rw [h17]
        refine op_v (v_not rfl) rfl ?_
        refine ops_nil ?_
        refine post_next ?_
        refine code_cond_t rfl ?_
        refine code_seq ?_
        refine code_region ?_
        refine op_v (v_assign rfl) rfl ?_
        refine ops_nil ?_
        refine post_next ?_
        refine code_ret ?_
        refine post_ret_then ?_
        refine post_ret (rs := [.tmp 4]) rfl (List.Perm.refl _) (.cons (.tmp rfl) .nil) (List.nil_sublist _) ?_
        exact ⟨by unfold termG; rw [hG, h0, if_neg (by simp), if_neg (by simp), if_pos h17]; rfl, rfl⟩
      · have h17' : unkG gs t = false := by simpa using h17
        rw [h17']
        refine op_v (v_not rfl) rfl ?_
        refine ops_nil ?_
        refine post_next ?_
        refine code_cond_f rfl ?_
        refine code_skip ?_
        refine post_next ?_
        refine code_seq ?_
        refine code_seq ?_
        refine code_region ?_
        refine op_v (v_move rfl) rfl ?_
        refine op_v (v_loadA ty48 rfl rfl) rfl ?_
        refine op_call pl140 rfl rfl ((things_does _ _ (Nat.le_refl _) h17' _ _ _ (hg.mono Imm.leA) (hv.mono Imm.leA))) Parts.none ?_
        rintro _ I20 _ hI20 ⟨rfl, rfl⟩
        by_cases h21 : mixG gs t = true
        · rw [h21]
          refine op_v (v_not rfl) rfl ?_
          refine ops_nil ?_
          refine post_next ?_
          refine code_cond_t rfl ?_
          refine code_seq ?_
          refine code_region ?_
          refine op_v (v_assign rfl) rfl ?_
          refine ops_nil ?_
          refine post_next ?_
          refine code_ret ?_
          refine post_ret_then ?_
          refine post_ret (rs := [.tmp 4]) rfl (List.Perm.refl _) (.cons (.tmp rfl) .nil) (List.nil_sublist _) ?_
          exact ⟨by unfold termG; rw [hG, h0, if_neg (by simp), if_neg (by simp), if_neg (by rw [h17']; simp), if_pos h21]; rfl, rfl⟩
        · have h21' : mixG gs t = false := by simpa using h21
          rw [h21']
          refine op_v (v_not rfl) rfl ?_
          refine ops_nil ?_
          refine post_next ?_
          refine code_cond_f rfl ?_
          refine code_skip ?_
          refine post_next ?_
          refine code_seq ?_
          refine code_region ?_
          refine op_v (v_assign rfl) rfl ?_
          refine ops_nil ?_
          refine post_next ?_
          refine code_ret ?_
          refine post_ret (rs := [.tmp 4]) rfl (List.Perm.refl _) (.cons (.tmp rfl) .nil) (List.nil_sublist _) ?_
          exact ⟨by unfold termG; rw [hG, h0, if_neg (by simp), if_neg (by simp), if_neg (by rw [h17']; simp), if_neg (by rw [h21']; simp)]; rfl, rfl⟩
  · have h8' : rightG gs = false := by simpa using h8
    rw [h8']
    have hG : chkG gs = 1 := by simp [chkG, h8']
    refine op_v (v_not rfl) rfl ?_
    refine ops_nil ?_
    refine post_next ?_
    refine code_cond_t rfl ?_
    refine code_seq ?_
    refine code_region ?_
    refine op_v (v_assign rfl) rfl ?_
    refine ops_nil ?_
    refine post_next ?_
    refine code_ret ?_
    refine post_ret_then ?_
    refine post_ret (rs := [.tmp 4]) rfl (List.Perm.refl _) (.cons (.tmp rfl) .nil) (List.nil_sublist _) ?_
    exact ⟨by unfold termG; rw [hG]; rfl, rfl⟩
end Go.Proofs.YtdbadicpbmndbaaGreat
/- Walks: the document's answers on variables and weights. -/
set_option linter.unusedVariables false
set_option linter.unusedSimpArgs false
/- short -/
namespace Go.Proofs.YtdbadicpbmndbaaGreat
open Go Lg

/-! ### plain -/
theorem hdsL_eq : ∀ ts : List T, (visL ts).map (·.2.head) = ts.flatMap hds
  | [] => rfl
  | t :: r => by
    rw [visL, List.map_append, hdsL_eq r, List.flatMap_cons]
    congr 1
    unfold hds
    rw [visT_eq, visT_eq]; rfl
theorem hds_eq (h : Int) (ts : List T) : hds (.mk h ts) = h :: ts.flatMap hds := by
  have : hds (.mk h ts) = h :: (visL ts).map (·.2.head) := by unfold hds; rw [visT_eq]; rfl
  rw [this, hdsL_eq]
theorem chk_head {h : Int} {ts : List T} (hc : chkT (.mk h ts) = 0) : -256 ≤ h := (chk_vis hc (true, .mk h ts) (by rw [visT_eq]; exact List.mem_cons_self ..)).2
/-- variables of some, as numbers -/
def VarsOf (t : T) (xs : List Int) : Prop := ∀ n : Int, n ∈ xs ↔ 0 ≤ n ∧ -1 - n ∈ hds t
def VarsOfL (h : Int) (ts : List T) (xs : List Int) : Prop := ∀ n : Int, n ∈ xs ↔ 0 ≤ n ∧ (-1 - n = h ∨ -1 - n ∈ ts.flatMap hds)
/-! ### walks -/
theorem RVars_does : ∀ (n : Nat) (t : T), t.size ≤ n → chkT t = 0 → ∀ (I : Imm) (v : Value), RepT I v t →
    Does Tryz.prog 134 [v] I [] (fun v I' δ' => (∃ xs, RInts I' v xs ∧ VarsOf t xs ∧ xs.length ≤ t.size) ∧ δ' = []) := by
  intro n
  induction n with
  | zero => intro t ht; have := t.size_pos; omega
  | succ n ih =>
    intro t ht hck I v hv
    obtain ⟨h, ts⟩ := t
    obtain ⟨ad, c, ss, rfl, hr, hc, hb, hat, hsub⟩ := hv.elim
    have hsz : (T.mk h ts).size = 1 + sizeL ts := by simp [T.size]
    obtain ⟨hlf, hch⟩ := chkT_args hck
    have hh := chk_head hck
    have hs4 := chkT_size hck
    refine Does.intro Tryz.func134 rfl Tryz.ntmps134 rfl fun w0 => ?_
    refine code_seq ?_
    refine code_region ?_
    refine o_box rfl rfl rfl (fun b1 => ?_)
    refine op_v (v_assign rfl) rfl ?_
    refine ops_nil ?_
    refine post_next ?_
    refine code_seq ?_
    refine code_region ?_
    refine op_v (v_assign rfl) rfl ?_
    refine ops_nil ?_
    refine post_next ?_
    refine code_seq_meet (fun σ' I' δ' => ∃ (ar : Option Addr) (cr : Nat) (xs : List Int), σ' = [(1, .pointer (some ⟨b1, 0, none⟩)), (3, .slice ar xs.length cr)] ∧ I = I' ∧ δ' = [iRow ar cr xs, .box b1 48 [.int .i64 h, .slice ad ts.length c]] ∧ VarsOfL h [] xs ∧ xs.length ≤ 1) ?_ ?_
    · refine code_seq ?_
      refine code_region ?_
      refine op_v (v_fieldB 0 Tryz.underlying48 rfl rfl fz3 rfl) rfl ?_
      refine op_v (v_loadA ty3 rfl rfl) rfl ?_
      refine op_v (v_cmp rfl rfl rfl) rfl ?_
      refine ops_nil ?_
      refine post_next ?_
      refine code_cond rfl (fun hc0 => ?_) (fun hc0 => ?_)
      · have h9 : h < 0 := by simpa using hc0
        refine code_region ?_
        refine op_v (v_move rfl) rfl ?_
        refine op_v (v_fieldB 0 Tryz.underlying48 rfl rfl fz3 rfl) rfl ?_
        refine op_v (v_loadA ty3 rfl rfl) rfl ?_
        refine op_v (v_subb rfl rfl rfl (by omega)) rfl ?_
        refine o_buildSlice (xs := [(Go.Operand.tmp 13)]) Tryz.underlying30 bs3 rfl rfl rfl rfl rfl (fun b14 => ?_)
        refine OpsJ.view (View.nilRow 3 1) ?_
        refine o_append Tryz.underlying30 bs3 rfl rfl rfl (fun v' => by repeat (first | exact Swap.here | apply Swap.there)) (Src.ofRow (by repeat (first | exact Has.here | apply Has.there)) rfl) (by first | rfl | omega | simp) (by simp [cat, cellsL, Value.oneCell']) (by omega) (by omega) (fun a15 c15 => ?_)
        refine op_v (v_assign rfl) rfl ?_
        refine ops_nil ?_
        refine PostJ.view (View.drop (Del.there Del.here)) ?_
        refine post_meet _ ⟨a15, c15, [-1 - h], rfl, rfl, by simp [iRow, cat, cellsL], fun n => by simp; omega, by simp⟩ ⟨rfl, rfl, trivial⟩
      · have h9 : ¬ h < 0 := by simpa using hc0
        refine code_skip ?_
        refine PostJ.view (View.nilRow 3 1) ?_
        refine post_meet _ ⟨none, 0, [], rfl, rfl, rfl, fun n => by simp; omega, by simp⟩ ⟨rfl, rfl, trivial⟩
    · rintro _ _ _ ⟨ar, cr, xs, rfl, rfl, rfl, hxs, hxl⟩
      refine code_seq ?_
      refine code_seq ?_
      refine code_region ?_
      refine op_v (v_assign rfl) rfl ?_
      refine ops_nil ?_
      refine post_next ?_
      refine code_block ?_
      refine code_loop (fun m σ' I' δ' => ∃ (k : Nat) (ar : Option Addr) (cr : Nat) (xs : List Int), m = ts.length - k ∧ k ≤ ts.length ∧ σ' = [(1, .pointer (some ⟨b1, 0, none⟩)), (3, .slice ar xs.length cr), (4, .int .i64 k)] ∧ I.le I' ∧ δ' = [iRow ar cr xs, .box b1 48 [.int .i64 h, .slice ad ts.length c]] ∧ VarsOfL h (ts.take k) xs ∧ xs.length ≤ 1 + sizeL (ts.take k)) ts.length [(1, .pointer (some ⟨b1, 0, none⟩)), (3, .slice ar xs.length cr), (4, .int .i64 (0 : Nat))] ⟨0, ar, cr, xs, rfl, Nat.zero_le _, rfl, Imm.le_refl _, rfl, hxs, by simp [sizeL]; exact hxl⟩ ⟨rfl, rfl, rfl, trivial⟩ ?_
      rintro m _ I0 _ ⟨k, ar, cr, xs, rfl, hk, rfl, hI0, rfl, hxs, hxl⟩
      refine code_seq ?_
      refine code_seq ?_
      refine code_region ?_
      refine op_v (v_move rfl) rfl ?_
      refine op_v (v_fieldB 1 Tryz.underlying48 rfl rfl fz46 rfl) rfl ?_
      refine op_v (v_loadA ty46 rfl rfl) rfl ?_
      refine op_v (v_len Tryz.underlying46 rfl) rfl ?_
      refine op_v (v_cmp rfl rfl rfl) rfl ?_
      refine ops_nil ?_
      refine post_next ?_
      refine code_cond rfl (fun hc1 => ?_) (fun hc1 => ?_)
      · have hlt : k < ts.length := by simpa using hc1
        have hs1 := (hat k hlt).isSome
        have hm := sizeL_mem ts k hlt
        have hst := sizeL_take ts k hlt
        have hsd : sizeL (ts.take k) + sizeL (ts.drop k) = sizeL ts := by rw [← sizeL_app, List.take_append_drop]
        have hsd2 := sizeL_drop ts k hlt
        refine code_skip ?_
        refine post_next ?_
        refine code_seq ?_
        refine code_block ?_
        refine code_seq ?_
        refine code_region ?_
        refine op_v (v_fieldB 1 Tryz.underlying48 rfl rfl fz46 rfl) rfl ?_
        refine op_v (v_loadA ty46 rfl rfl) rfl ?_
        refine op_v (v_move rfl) rfl ?_
        refine op_v (v_indexA Tryz.underlying46 sz48 rfl rfl) rfl ?_
        refine op_v (v_loadI0 ty48 ((hat k hlt).mono hI0) rfl rfl rfl) rfl ?_
        refine op_call pl134 rfl rfl ((ih ts[k] (by omega) (hch k hlt) _ _ ((hsub k hlt).mono hI0))) Parts.none ?_
        rintro v28 I28 _ hI28 ⟨⟨ys, ⟨yd, yc, ys, hyc, hyb, hyat, hyr⟩, hys, hyl⟩, rfl⟩
        refine op_v (v_assign rfl) rfl ?_
        refine ops_nil ?_
        refine post_next ?_
        refine code_seq ?_
        refine code_region ?_
        refine op_v (v_assign rfl) rfl ?_
        refine ops_nil ?_
        refine post_next ?_
        refine code_block ?_
        refine code_loop (fun m σ' I' δ' => ∃ (j : Nat) (ar : Option Addr) (cr : Nat) (zs : List Int), m = ys.length - j ∧ j ≤ ys.length ∧ σ' = [(1, .pointer (some ⟨b1, 0, none⟩)), (3, .slice ar zs.length cr), (4, .int .i64 k), (5, .slice yd ys.length yc), (6, .int .i64 j)] ∧ I28.le I' ∧ δ' = [iRow ar cr zs, .box b1 48 [.int .i64 h, .slice ad ts.length c]] ∧ (∀ n, n ∈ zs ↔ n ∈ xs ∨ n ∈ ys.take j) ∧ zs.length ≤ xs.length + j) ys.length [(1, .pointer (some ⟨b1, 0, none⟩)), (3, .slice ar xs.length cr), (4, .int .i64 k), (5, .slice yd ys.length yc), (6, .int .i64 (0 : Nat))] ⟨0, ar, cr, xs, rfl, Nat.zero_le _, rfl, Imm.le_refl _, rfl, fun n => by simp, by omega⟩ ⟨rfl, rfl, rfl, rfl, rfl, trivial⟩ ?_
        rintro m _ I1 _ ⟨j, ar, cr, zs, rfl, hj, rfl, hI1, rfl, hzs, hzl⟩
        refine code_seq ?_
        refine code_seq ?_
        refine code_region ?_
        refine op_v (v_move rfl) rfl ?_
        refine op_v (v_move rfl) rfl ?_
        refine op_v (v_len Tryz.underlying30 rfl) rfl ?_
        refine op_v (v_cmp rfl rfl rfl) rfl ?_
        refine ops_nil ?_
        refine post_next ?_
        refine code_cond rfl (fun hc2 => ?_) (fun hc2 => ?_)
        · have hltj : j < ys.length := by simpa using hc2
          have hsy := ints_some hyat j hltj
          refine code_skip ?_
          refine post_next ?_
          refine code_seq ?_
          refine code_block ?_
          refine code_seq ?_
          refine code_region ?_
          refine op_v (v_move rfl) rfl ?_
          refine op_v (v_move rfl) rfl ?_
          refine op_v (v_indexA Tryz.underlying30 sz3 rfl rfl) rfl ?_
          refine op_v (v_loadI0 ty3 ((ints_at hyat j hltj).mono hI1) rfl rfl rfl) rfl ?_
          refine op_v (v_move rfl) rfl ?_
          refine op_call pl36 rfl rfl ((In_does (by omega))) (Parts.one Del.here) ?_
          rintro v40 I40 _ hI40 ⟨rfl, rfl⟩
          by_cases hm41 : ys[j] ∈ zs
          · rw [show decide (ys[j] ∈ zs) = true by simpa using hm41]
            refine op_v (v_not rfl) rfl ?_
            refine ops_nil ?_
            refine post_next ?_
            refine code_cond_f rfl ?_
            refine code_skip ?_
            refine post_out ?_
            refine post_next ?_
            refine code_region ?_
            refine op_v (v_move rfl) rfl ?_
            refine op_v (v_addb rfl rfl rfl (by omega)) rfl ?_
            refine op_v (v_assign rfl) rfl ?_
            refine ops_nil ?_
            refine post_again (ys.length - (j + 1)) [(1, .pointer (some ⟨b1, 0, none⟩)), (3, .slice ar zs.length cr), (4, .int .i64 k), (5, .slice yd ys.length yc), (6, .int .i64 (j + 1 : Nat))] (by omega) ⟨j + 1, ar, cr, zs, rfl, hltj, rfl, Imm.leA, rfl, ?_, by omega⟩ ⟨rfl, rfl, rfl, rfl, rfl, trivial⟩
            intro n
            rw [List.take_succ_eq_append_getElem hltj, List.mem_append, List.mem_singleton, hzs n]
            constructor
            · rintro (h | h) <;> simp [h]
            · rintro (h | h | h)
              · exact .inl h
              · exact .inr h
              · subst h; exact (hzs _).1 hm41
          · rw [show decide (ys[j] ∈ zs) = false by simpa using hm41]
            refine op_v (v_not rfl) rfl ?_
            refine ops_nil ?_
            refine post_next ?_
            refine code_cond_t rfl ?_
            refine code_region ?_
            refine op_v (v_move rfl) rfl ?_
            refine op_v (v_move rfl) rfl ?_
            refine op_v (v_move rfl) rfl ?_
            refine op_v (v_indexA Tryz.underlying30 sz3 rfl rfl) rfl ?_
            refine op_v (v_loadI0 ty3 ((ints_at hyat j hltj).mono Imm.leA) rfl rfl rfl) rfl ?_
            refine o_buildSlice (xs := [(Go.Operand.tmp 46)]) Tryz.underlying30 bs3 rfl rfl rfl rfl rfl (fun b47 => ?_)
            refine o_append Tryz.underlying30 bs3 rfl rfl rfl (fun v' => by repeat (first | exact Swap.here | apply Swap.there)) (Src.ofRow (by repeat (first | exact Has.here | apply Has.there)) rfl) (by first | rfl | omega | simp) (by simp [cat, cellsL, Value.oneCell']) (by omega) (by omega) (fun a48 c48 => ?_)
            refine op_v (v_assign rfl) rfl ?_
            refine ops_nil ?_
            refine post_out ?_
            refine post_next ?_
            refine code_region ?_
            refine op_v (v_move rfl) rfl ?_
            refine op_v (v_addb rfl rfl rfl (by omega)) rfl ?_
            refine op_v (v_assign rfl) rfl ?_
            refine ops_nil ?_
            refine PostJ.view (View.drop Del.here) ?_
            refine post_again (ys.length - (j + 1)) [(1, .pointer (some ⟨b1, 0, none⟩)), (3, .slice a48 (zs.length + 1) c48), (4, .int .i64 k), (5, .slice yd ys.length yc), (6, .int .i64 (j + 1 : Nat))] (by omega) ⟨j + 1, a48, c48, zs ++ [ys[j]], rfl, hltj, by simp, Imm.leA, by simp [iRow, cat, cellsL], ?_, by simp; omega⟩ ⟨rfl, rfl, rfl, rfl, rfl, trivial⟩
            intro n
            rw [List.take_succ_eq_append_getElem hltj, List.mem_append, List.mem_append, List.mem_singleton, hzs n, or_assoc]
        · have hgej : j = ys.length := by simp at hc2; omega
          refine code_exit ?_
          refine post_exit_then ?_
          refine post_exit_then ?_
          refine post_exit ?_
          refine post_out ?_
          refine post_next ?_
          refine code_region ?_
          refine op_v (v_move rfl) rfl ?_
          refine op_v (v_addb rfl rfl rfl (by omega)) rfl ?_
          refine op_v (v_assign rfl) rfl ?_
          refine ops_nil ?_
          refine post_again (ts.length - (k + 1)) [(1, .pointer (some ⟨b1, 0, none⟩)), (3, .slice ar zs.length cr), (4, .int .i64 (k + 1 : Nat))] (by omega) ⟨k + 1, ar, cr, zs, rfl, hlt, rfl, Imm.leA, rfl, ?_, by omega⟩ ⟨rfl, rfl, rfl, trivial⟩
          intro n
          rw [hzs n, hgej, List.take_length, hxs n, hys n, List.take_succ_eq_append_getElem hlt, List.flatMap_append, List.mem_append]
          simp only [List.flatMap_cons, List.flatMap_nil, List.append_nil]
          constructor
          · rintro (⟨h1, h2 | h2⟩ | ⟨h1, h2⟩)
            · exact ⟨h1, .inl h2⟩
            · exact ⟨h1, .inr (.inl h2)⟩
            · exact ⟨h1, .inr (.inr h2)⟩
          · rintro ⟨h1, h2 | h2 | h2⟩
            · exact .inl ⟨h1, .inl h2⟩
            · exact .inl ⟨h1, .inr h2⟩
            · exact .inr ⟨h1, h2⟩
      · have hge : k = ts.length := by simp at hc1; omega
        refine code_exit ?_
        refine post_exit_then ?_
        refine post_exit_then ?_
        refine post_exit ?_
        refine post_next ?_
        refine code_seq ?_
        refine code_region ?_
        refine OpsJ.freezeRow Del.here ?_
        rintro I49 ar2 cr2 hI49 hvr hcr hlr hcells
        cases hvr
        subst hge
        rw [List.take_length] at hxs hxl
        refine op_v (v_move rfl) rfl ?_
        refine op_v (v_assign rfl) rfl ?_
        refine ops_nil ?_
        refine post_next ?_
        refine code_ret ?_
        refine post_ret (rs := [.tmp 2]) rfl (List.Perm.refl _) (.cons (.tmp rfl) .nil) (List.nil_sublist _) ?_
        exact ⟨⟨xs, RInts.of rfl hcr (by omega) hcells (fun n hn => by have h0 := (hxs n).1 hn; have h1 := repT_heads hv (k := -1 - n) (by rw [hds_eq]; rcases h0.2 with e | e; (rw [e]; exact List.mem_cons_self ..); exact List.mem_cons_of_mem _ e); unfold InR at *; omega), fun n => by rw [hxs n, hds_eq, List.mem_cons], by rw [hsz]; exact hxl⟩, rfl⟩
theorem RCount_does : ∀ (n : Nat) (t : T), t.size ≤ n → t.size ≤ 1000000000 → ∀ (I : Imm) (v : Value) (k : Int), RepT I v t → 0 ≤ k → k ≤ 1000000000 →
    Does Tryz.prog 174 [v, .int .i64 k] I [] (fun v I' δ' => v = .int .i64 (cn t (-1 - k) : Nat) ∧ δ' = []) := by
  intro n
  induction n with
  | zero => intro t ht; have := t.size_pos; omega
  | succ n ih =>
    intro t ht hbig I v q hv hq0 hq1
    obtain ⟨h, ts⟩ := t
    obtain ⟨ad, c, ss, rfl, hr, hc, hb, hat, hsub⟩ := hv.elim
    have hsz : (T.mk h ts).size = 1 + sizeL ts := by simp [T.size]
    have hcl : ∀ k, cnV (visL (ts.take k)) (-1 - q) ≤ sizeL (ts.take k) := fun k => by
      have h1 : cnV (visL (ts.take k)) (-1 - q) ≤ ((visL (ts.take k)).map (·.2.head)).length := List.count_le_length
      rwa [List.length_map, visL_length] at h1
    refine Does.intro Tryz.func174 rfl Tryz.ntmps174 rfl fun w0 => ?_
    refine code_seq ?_
    refine code_region ?_
    refine o_box rfl rfl rfl (fun b2 => ?_)
    refine op_v (v_assign rfl) rfl ?_
    refine ops_nil ?_
    refine post_next ?_
    refine code_seq ?_
    refine code_region ?_
    refine op_v (v_assign rfl) rfl ?_
    refine ops_nil ?_
    refine post_next ?_
    refine code_seq_meet (fun σ' I' δ' => σ' = [(1, .int .i64 q), (2, .pointer (some ⟨b2, 0, none⟩)), (5, .int .i64 ((if h = -1 - q then 1 else 0 : Nat) : Int))] ∧ I = I' ∧ δ' = [.box b2 48 [.int .i64 h, .slice ad ts.length c]]) ?_ ?_
    · refine code_seq ?_
      refine code_region ?_
      refine op_v (v_fieldB 0 Tryz.underlying48 rfl rfl fz3 rfl) rfl ?_
      refine op_v (v_loadA ty3 rfl rfl) rfl ?_
      refine op_v (v_move rfl) rfl ?_
      refine op_v (v_subb rfl rfl rfl (by omega)) rfl ?_
      by_cases h11 : h = -1 - q
      · refine op_v (v_cmptA rfl rfl rfl) rfl ?_
        refine ops_nil ?_
        refine post_next ?_
        refine code_cond_t rfl ?_
        refine code_region ?_
        refine op_v (v_assign rfl) rfl ?_
        refine ops_nil ?_
        refine post_meet [(1, .int .i64 q), (2, .pointer (some ⟨b2, 0, none⟩)), (5, .int .i64 1)] ⟨by rw [if_pos h11]; rfl, rfl, rfl⟩ ⟨rfl, rfl, rfl, trivial⟩
      · refine op_v (v_cmpfA rfl rfl rfl) rfl ?_
        refine ops_nil ?_
        refine post_next ?_
        refine code_cond_f rfl ?_
        refine code_skip ?_
        refine post_meet [(1, .int .i64 q), (2, .pointer (some ⟨b2, 0, none⟩)), (5, .int .i64 0)] ⟨by rw [if_neg h11]; rfl, rfl, rfl⟩ ⟨rfl, rfl, rfl, trivial⟩
    · rintro _ _ _ ⟨rfl, rfl, rfl⟩
      refine code_seq ?_
      refine code_seq ?_
      refine code_region ?_
      refine op_v (v_assign rfl) rfl ?_
      refine ops_nil ?_
      refine post_next ?_
      refine code_block ?_
      refine code_loop (fun m σ' I' δ' => ∃ k : Nat, m = ts.length - k ∧ k ≤ ts.length ∧ σ' = [(1, .int .i64 q), (2, .pointer (some ⟨b2, 0, none⟩)), (5, .int .i64 (((if h = -1 - q then 1 else 0) + cnV (visL (ts.take k)) (-1 - q) : Nat) : Int)), (6, .int .i64 k)] ∧ I.le I' ∧ δ' = [.box b2 48 [.int .i64 h, .slice ad ts.length c]]) ts.length [(1, .int .i64 q), (2, .pointer (some ⟨b2, 0, none⟩)), (5, .int .i64 ((if h = -1 - q then 1 else 0 : Nat) : Int)), (6, .int .i64 (0 : Nat))] ⟨0, rfl, Nat.zero_le _, by simp [visL, cnV], Imm.le_refl _, rfl⟩ ⟨rfl, rfl, rfl, rfl, trivial⟩ ?_
      rintro m _ I0 _ ⟨k, rfl, hk, rfl, hI0, rfl⟩
      have hck := hcl k
      refine code_seq ?_
      refine code_seq ?_
      refine code_region ?_
      refine op_v (v_move rfl) rfl ?_
      refine op_v (v_fieldB 1 Tryz.underlying48 rfl rfl fz46 rfl) rfl ?_
      refine op_v (v_loadA ty46 rfl rfl) rfl ?_
      refine op_v (v_len Tryz.underlying46 rfl) rfl ?_
      refine op_v (v_cmp rfl rfl rfl) rfl ?_
      refine ops_nil ?_
      refine post_next ?_
      refine code_cond rfl (fun hc1 => ?_) (fun hc1 => ?_)
      · have hlt : k < ts.length := by simpa using hc1
        have hs1 := (hat k hlt).isSome
        have hm := sizeL_mem ts k hlt
        have hsd : sizeL (ts.take k) + sizeL (ts.drop k) = sizeL ts := by rw [← sizeL_app, List.take_append_drop]
        have hsd2 := sizeL_drop ts k hlt
        have hcl2 : cn ts[k] (-1 - q) ≤ ts[k].size := by rw [← hds_length]; exact List.count_le_length
        refine code_skip ?_
        refine post_next ?_
        refine code_seq ?_
        refine code_block ?_
        refine code_region ?_
        refine op_v (v_move rfl) rfl ?_
        refine op_v (v_fieldB 1 Tryz.underlying48 rfl rfl fz46 rfl) rfl ?_
        refine op_v (v_loadA ty46 rfl rfl) rfl ?_
        refine op_v (v_move rfl) rfl ?_
        refine op_v (v_indexA Tryz.underlying46 sz48 rfl rfl) rfl ?_
        refine op_v (v_loadI0 ty48 ((hat k hlt).mono hI0) rfl rfl rfl) rfl ?_
        refine op_v (v_move rfl) rfl ?_
        refine op_call pl174 rfl rfl ((ih ts[k] (by omega) (by omega) _ _ _ ((hsub k hlt).mono hI0) hq0 hq1)) Parts.none ?_
        rintro _ I26 _ hI26 ⟨rfl, rfl⟩
        have hif : (if h = -1 - q then 1 else 0 : Nat) ≤ 1 := by split <;> omega
        refine op_v (v_addb rfl rfl rfl (by omega)) rfl ?_
        refine op_v (v_assign rfl) rfl ?_
        refine ops_nil ?_
        refine post_out ?_
        refine post_next ?_
        refine code_region ?_
        refine op_v (v_move rfl) rfl ?_
        refine op_v (v_addb rfl rfl rfl (by omega)) rfl ?_
        refine op_v (v_assign rfl) rfl ?_
        refine ops_nil ?_
        refine post_again (ts.length - (k + 1)) [(1, .int .i64 q), (2, .pointer (some ⟨b2, 0, none⟩)), (5, .int .i64 ((((if h = -1 - q then 1 else 0) + cnV (visL (ts.take k)) (-1 - q) : Nat) : Int) + (cn ts[k] (-1 - q) : Nat))), (6, .int .i64 (k + 1 : Nat))] (by omega) ⟨k + 1, rfl, hlt, by rw [visL_take ts k hlt, cnV_app, cnV_T]; congr 4; simp [Int.add_assoc], Imm.leA, rfl⟩ ⟨rfl, rfl, rfl, rfl, trivial⟩
      · have hge : k = ts.length := by simp at hc1; omega
        refine code_exit ?_
        refine post_exit_then ?_
        refine post_exit_then ?_
        refine post_exit ?_
        refine post_next ?_
        refine code_seq ?_
        refine code_region ?_
        refine op_v (v_move rfl) rfl ?_
        refine op_v (v_assign rfl) rfl ?_
        refine ops_nil ?_
        refine post_next ?_
        refine code_ret ?_
        refine post_ret (rs := [.tmp 4]) rfl (List.Perm.refl _) (.cons (.tmp rfl) .nil) (List.nil_sublist _) ?_
        exact ⟨by rw [cn_eq, hge, List.take_length]; rfl, rfl⟩
end Go.Proofs.YtdbadicpbmndbaaGreat
/- Walks: the document's answers on how two terms stand. -/
set_option linter.unusedVariables false
set_option linter.unusedSimpArgs false
/- short -/
namespace Go.Proofs.YtdbadicpbmndbaaGreat
open Go Lg

theorem OkG.sums {gs : List Sy} {t : T} (hO : OkG gs t) : ∀ k, k ≤ t.args.length → 0 ≤ sumV gs (visL (t.args.take k)) ∧ sumV gs (visL (t.args.take k)) ≤ 400000 := fun k hk => by
  have htot := wgtG_range hO
  have hheads := hO.heads
  have hwB := wB_range hO.right (hheads (true, t) (by rw [visT_eq]; exact List.mem_cons_self ..))
  simp only at hwB
  have e : sumV gs (visL t.args) = sumV gs (visL (t.args.take k)) + sumV gs (visL (t.args.drop k)) := by rw [← sumV_app, ← visL_app, List.take_append_drop]
  have hin : ∀ x ∈ visL t.args, x.2.head < 0 ∨ (0 ≤ x.2.head ∧ x.2.head < gs.length) := fun x hx => hheads x (by rw [visT_eq]; exact List.mem_cons_of_mem _ hx)
  have e2 : visL t.args = visL (t.args.take k) ++ visL (t.args.drop k) := by rw [← visL_app, List.take_append_drop]
  have h5 := sumV_nonneg hO.right (visL (t.args.take k)) (fun x hx => hin x (by rw [e2]; exact List.mem_append_left _ hx))
  have h6 := sumV_nonneg hO.right (visL (t.args.drop k)) (fun x hx => hin x (by rw [e2]; exact List.mem_append_right _ hx))
  have h7 := wgtG_eq gs t
  omega
theorem rweight_does {gs : List Sy} : ∀ (n : Nat) (t : T), t.size ≤ n → OkG gs t → ∀ (I : Imm) (vg v : Value), RepG I vg gs → RepT I v t →
    Does Tryz.prog 144 [vg, v] I [] (fun v _ δ' => v = .int .i64 (wgtG gs t) ∧ δ' = []) := by
  intro n
  induction n with
  | zero => intro t h; have := t.size_pos; omega
  | succ n ih =>
    intro t hn hO I vg v hg hv
    have hsz := size_eqT t
    have hsums := hO.sums
    have hwe := wgtG_eq gs t
    have hhd := hO.heads (true, t) (by rw [visT_eq]; exact List.mem_cons_self ..)
    have hwB := wB_range hO.right hhd
    simp only at hhd hwB
    obtain ⟨ga, gc, rfl⟩ := hg.shape
    obtain ⟨_, hgc, hgb, hgat, hgok⟩ := hg.open
    obtain ⟨a0, c0, rfl, hr0⟩ := hv.shape
    obtain ⟨_, _, _, hc0, hb0, ss, hat, hsub⟩ := hv.open
    refine Does.intro Tryz.func144 rfl Tryz.ntmps144 rfl fun w0 => ?_
    refine code_seq ?_
    refine code_region ?_
    refine o_box rfl rfl rfl (fun b3 => ?_)
    refine op_v (v_assign rfl) rfl ?_
    refine ops_nil ?_
    refine post_next ?_
    refine code_seq ?_
    refine code_seq ?_
    refine code_region ?_
    refine op_v (v_fieldB 0 Tryz.underlying48 rfl rfl fz3 rfl) rfl ?_
    refine op_v (v_loadA ty3 rfl rfl) rfl ?_
    by_cases h9 : t.head < 0
    · refine op_v (v_cmptA rfl rfl rfl) rfl ?_
      refine ops_nil ?_
      refine post_next ?_
      refine code_cond_t rfl ?_
      refine code_seq ?_
      refine code_region ?_
      refine op_v (v_assign rfl) rfl ?_
      refine ops_nil ?_
      refine post_next ?_
      refine code_ret ?_
      refine post_ret_then ?_
      refine post_ret (rs := [.tmp 4]) rfl (List.Perm.refl _) (.cons (.tmp rfl) .nil) (List.nil_sublist _) ?_
      exact ⟨by have hl := hO.leaf h9; rw [hwe, hl]; simp [wB, h9, visL, sumV, outV], rfl⟩
    · have hlt : t.head.toNat < gs.length := by omega
      have hs0 := (hgat _ hlt).isSome
      have hwq : wB gs t.head = (gs[t.head.toNat]'hlt).wt := by rw [wB, if_neg h9, wtG_at (by omega) (by omega)]
      refine op_v (v_cmpfA rfl rfl rfl) rfl ?_
      refine ops_nil ?_
      refine post_next ?_
      refine code_cond_f rfl ?_
      refine code_skip ?_
      refine post_next ?_
      refine code_seq ?_
      refine code_region ?_
      refine op_v (v_move rfl) rfl ?_
      refine op_v (v_fieldB 0 Tryz.underlying48 rfl rfl fz3 rfl) rfl ?_
      refine op_v (v_loadA ty3 rfl rfl) rfl ?_
      refine op_v (v_indexIA Tryz.underlying22 sz85 rfl rfl) rfl ?_
      refine op_v (v_fieldI 2 Tryz.underlying85 rfl rfl fz3 rfl (by assumption)) rfl ?_
      refine op_v (v_loadI ty3 (hgat _ hlt) rfl rfl rfl) rfl ?_
      rw [← hwq]
      refine op_v (v_assign rfl) rfl ?_
      refine ops_nil ?_
      refine post_next ?_
      refine code_seq ?_
      refine code_seq ?_
      refine code_region ?_
      refine op_v (v_assign rfl) rfl ?_
      refine ops_nil ?_
      refine post_next ?_
      refine code_block ?_
      refine code_loop (fun m σ' I' δ' => ∃ k : Nat, m = t.args.length - k ∧ k ≤ t.args.length ∧ σ' = [(0, .slice ga gs.length gc), (3, .pointer (some ⟨b3, 0, none⟩)), (5, .int .i64 (wB gs t.head + sumV gs (visL (t.args.take k)))), (6, .int .i64 k)] ∧ I.le I' ∧ δ' = [.box b3 48 [.int .i64 t.head, .slice a0 t.args.length c0]]) t.args.length [(0, .slice ga gs.length gc), (3, .pointer (some ⟨b3, 0, none⟩)), (5, .int .i64 (wB gs t.head)), (6, .int .i64 (0 : Nat))] ⟨0, rfl, Nat.zero_le _, by simp [visL, sumV], Imm.le_refl _, rfl⟩ ⟨rfl, rfl, rfl, rfl, trivial⟩ ?_
      rintro m _ I0 _ ⟨k, rfl, hk, rfl, hI0, rfl⟩
      have hsk := hsums k hk
      refine code_seq ?_
      refine code_seq ?_
      refine code_region ?_
      refine op_v (v_move rfl) rfl ?_
      refine op_v (v_fieldB 1 Tryz.underlying48 rfl rfl fz46 rfl) rfl ?_
      refine op_v (v_loadA ty46 rfl rfl) rfl ?_
      refine op_v (v_len Tryz.underlying46 rfl) rfl ?_
      refine op_v (v_cmp rfl rfl rfl) rfl ?_
      refine ops_nil ?_
      refine post_next ?_
      refine code_cond rfl (fun hc1 => ?_) (fun hc1 => ?_)
      · have hltk : k < t.args.length := by simpa using hc1
        have hs1 := (hat k hltk).isSome
        have hm := sizeL_mem t.args k hltk
        have hch := (hO.child k hltk).1
        have hwc := wgtG_range hch
        refine code_skip ?_
        refine post_next ?_
        refine code_seq ?_
        refine code_block ?_
        refine code_region ?_
        refine op_v (v_move rfl) rfl ?_
        refine op_v (v_move rfl) rfl ?_
        refine op_v (v_fieldB 1 Tryz.underlying48 rfl rfl fz46 rfl) rfl ?_
        refine op_v (v_loadA ty46 rfl rfl) rfl ?_
        refine op_v (v_move rfl) rfl ?_
        refine op_v (v_indexA Tryz.underlying46 sz48 rfl rfl) rfl ?_
        refine op_v (v_loadI0 ty48 ((hat k hltk).mono hI0) rfl rfl rfl) rfl ?_
        refine op_call pl144 rfl rfl ((ih t.args[k] (by omega) hch _ _ _ (hg.mono hI0) ((hsub k hltk).mono hI0))) Parts.none ?_
        rintro _ I30 _ hI30 ⟨rfl, rfl⟩
        refine op_v (v_addb rfl rfl rfl (by omega)) rfl ?_
        refine op_v (v_assign rfl) rfl ?_
        refine ops_nil ?_
        refine post_out ?_
        refine post_next ?_
        refine code_region ?_
        refine op_v (v_move rfl) rfl ?_
        refine op_v (v_addb rfl rfl rfl (by omega)) rfl ?_
        refine op_v (v_assign rfl) rfl ?_
        refine ops_nil ?_
        refine post_again (t.args.length - (k + 1)) [(0, .slice ga gs.length gc), (3, .pointer (some ⟨b3, 0, none⟩)), (5, .int .i64 (wB gs t.head + sumV gs (visL (t.args.take k)) + wgtG gs t.args[k])), (6, .int .i64 (k + 1 : Nat))] (by omega) ⟨k + 1, rfl, hltk, by rw [visL_take t.args k hltk, sumV_app, sumV_T, Int.add_assoc], Imm.leA, rfl⟩ ⟨rfl, rfl, rfl, rfl, trivial⟩
      · have hge : k = t.args.length := by simp at hc1; omega
        refine code_exit ?_
        refine post_exit_then ?_
        refine post_exit_then ?_
        refine post_exit ?_
        refine post_next ?_
        refine code_seq ?_
        refine code_region ?_
        refine op_v (v_move rfl) rfl ?_
        refine op_v (v_assign rfl) rfl ?_
        refine ops_nil ?_
        refine post_next ?_
        refine code_ret ?_
        refine post_ret (rs := [.tmp 4]) rfl (List.Perm.refl _) (.cons (.tmp rfl) .nil) (List.nil_sublist _) ?_
        exact ⟨by rw [hge, List.take_length, ← hwe]; rfl, rfl⟩
theorem RWeight_does {gs : List Sy} {t : T} (hO : OkG gs t) {I : Imm} {vg v : Value} (hg : RepG I vg gs) (hv : RepT I v t) :
    Does Tryz.prog 120 [vg, v] I [] (fun v _ δ' => v = .tuple #[.int .i64 (wgtG gs t), .int .i64 0] ∧ δ' = []) := by
  have hsz := chkT_size hO.chk
  have hz := termG_ok.2 hO
  obtain ⟨a0, c0, rfl, hr0⟩ := hv.shape
  refine Does.intro Tryz.func120 rfl Tryz.ntmps120 rfl fun w0 => ?_
  refine code_seq ?_
  refine code_region ?_
  refine o_box rfl rfl rfl (fun b3 => ?_)
  refine op_v (v_assign rfl) rfl ?_
  refine op_v (v_assign rfl) rfl ?_
  refine ops_nil ?_
  refine post_next ?_
  refine code_seq ?_
  refine code_region ?_
  refine op_v (v_move rfl) rfl ?_
  refine op_v (v_loadA ty48 rfl rfl) rfl ?_
  refine op_call pl115 rfl rfl ((RTerm_does (hg.mono Imm.leA) (hv.mono Imm.leA) (by omega))) Parts.none ?_
  rintro _ I9 _ hI9 ⟨rfl, rfl⟩
  rw [hz]
  refine op_v (v_assign rfl) rfl ?_
  refine ops_nil ?_
  refine post_next ?_
  refine code_seq ?_
  refine code_seq ?_
  refine code_region ?_
  refine op_v (v_move rfl) rfl ?_
  refine op_v (v_cmpfA rfl rfl rfl) rfl ?_
  refine ops_nil ?_
  refine post_next ?_
  refine code_cond_f rfl ?_
  refine code_skip ?_
  refine post_next ?_
  refine code_seq ?_
  refine code_region ?_
  refine op_v (v_move rfl) rfl ?_
  refine op_v (v_loadA ty48 rfl rfl) rfl ?_
  refine op_call pl144 rfl rfl ((rweight_does _ _ (Nat.le_refl _) hO _ _ _ (hg.mono Imm.leA) (hv.mono Imm.leA))) Parts.none ?_
  rintro _ I15 _ hI15 ⟨rfl, rfl⟩
  refine op_v (v_assign rfl) rfl ?_
  refine op_v (v_assign rfl) rfl ?_
  refine ops_nil ?_
  refine post_next ?_
  refine code_ret ?_
  refine post_ret (rs := [.tmp 4, .tmp 5]) rfl (List.Perm.refl _) (.cons (.tmp rfl) (.cons (.tmp rfl) .nil)) (List.nil_sublist _) ?_
  exact ⟨rfl, rfl⟩
theorem vleB_of {a b : T} {ys : List Int} (hy : VarsOf b ys) (h : ∀ n ∈ ys, cn b (-1 - n) ≤ cn a (-1 - n)) : vleB a b = true := vleB_iff.2 fun k hk => by
  by_cases hm : k ∈ hds b
  · have := h (-1 - k) ((hy _).2 ⟨by omega, by rw [show -1 - (-1 - k) = k by omega]; exact hm⟩)
    rwa [show -1 - (-1 - k) = k by omega] at this
  · have : cn b k = 0 := List.count_eq_zero.2 hm
    omega
theorem often_does {I : Imm} {va vb : Value} {a b : T} (hva : RepT I va a) (hvb : RepT I vb b) (ha : chkT a = 0) (hb : chkT b = 0) :
    Does Tryz.prog 171 [va, vb] I [] (fun v _ δ' => v = .bool (vleB a b) ∧ δ' = []) := by
  have hsa := chkT_size ha
  have hsb := chkT_size hb
  obtain ⟨a0, ac, rfl, _⟩ := hva.shape
  obtain ⟨b0, bc, rfl, _⟩ := hvb.shape
  refine Does.intro Tryz.func171 rfl Tryz.ntmps171 rfl fun w0 => ?_
  refine code_seq ?_
  refine code_region ?_
  refine o_box rfl rfl rfl (fun b2 => ?_)
  refine o_box rfl rfl rfl (fun b3 => ?_)
  refine op_v (v_assign rfl) rfl ?_
  refine ops_nil ?_
  refine post_next ?_
  refine code_seq ?_
  refine code_region ?_
  refine op_v (v_loadA ty48 rfl rfl) rfl ?_
  refine op_call pl134 rfl rfl ((RVars_does _ _ (Nat.le_refl _) hb _ _ (hvb.mono Imm.leA))) Parts.none ?_
  rintro v8 I8 _ hI8 ⟨⟨ys, ⟨yd, yc, ys, hyc, hyb, hyat, hyr⟩, hys, hyl⟩, rfl⟩
  refine op_v (v_assign rfl) rfl ?_
  refine ops_nil ?_
  refine post_next ?_
  refine code_seq ?_
  refine code_seq ?_
  refine code_region ?_
  refine op_v (v_assign rfl) rfl ?_
  refine ops_nil ?_
  refine post_next ?_
  refine code_block ?_
  refine code_loop (fun m σ' I' δ' => ∃ j : Nat, m = ys.length - j ∧ j ≤ ys.length ∧ σ' = [(2, .pointer (some ⟨b2, 0, none⟩)), (3, .pointer (some ⟨b3, 0, none⟩)), (5, .slice yd ys.length yc), (6, .int .i64 j)] ∧ I8.le I' ∧ δ' = [.box b3 48 [.int .i64 b.head, .slice b0 b.args.length bc], .box b2 48 [.int .i64 a.head, .slice a0 a.args.length ac]] ∧ ∀ i (h : i < ys.length), i < j → cn b (-1 - ys[i]) ≤ cn a (-1 - ys[i])) ys.length [(2, .pointer (some ⟨b2, 0, none⟩)), (3, .pointer (some ⟨b3, 0, none⟩)), (5, .slice yd ys.length yc), (6, .int .i64 (0 : Nat))] ⟨0, rfl, Nat.zero_le _, rfl, Imm.le_refl _, rfl, fun i _ h => by omega⟩ ⟨rfl, rfl, rfl, rfl, trivial⟩ ?_
  rintro m _ I1 _ ⟨j, rfl, hj, rfl, hI1, rfl, hp⟩
  refine code_seq ?_
  refine code_seq ?_
  refine code_region ?_
  refine op_v (v_move rfl) rfl ?_
  refine op_v (v_move rfl) rfl ?_
  refine op_v (v_len Tryz.underlying30 rfl) rfl ?_
  refine op_v (v_cmp rfl rfl rfl) rfl ?_
  refine ops_nil ?_
  refine post_next ?_
  refine code_cond rfl (fun hc0 => ?_) (fun hc0 => ?_)
  · have hltj : j < ys.length := by simpa using hc0
    have hsy := ints_some hyat j hltj
    have hyj := (hys ys[j]).1 (List.getElem_mem hltj)
    have hyk : -256 ≤ -1 - ys[j] := by { obtain ⟨x, hx, hxe⟩ := List.mem_map.1 hyj.2; rw [← hxe]; exact (chk_vis hb x hx).2 }
    refine code_skip ?_
    refine post_next ?_
    refine code_seq ?_
    refine code_block ?_
    refine code_seq ?_
    refine code_draw (.fl 0 (.fl 1 (.fl 2 (.fl 3 (.fl 4 (.fl 6 (.fl 7 (.fl 8 (.fl 9 (.fl 10 (.ef 5 (.ef 11 (.fl 12 .done))))))))))))) (fun _ => _) mixed (by kernel_rfl) (by kernel_rfl) (fun _ => (List.Sublist.refl _)) ?_
    refine e_fl rfl rfl (fun hs_ => PF.mk rfl (v_loadA ty48 rfl rfl) hs_) ?_
    refine e_fl rfl rfl (fun hs_ => PF.mk rfl (v_move rfl) hs_) ?_
    refine e_fl rfl rfl (fun hs_ => PF.mk rfl (v_move rfl) hs_) ?_
    refine e_fl rfl rfl (fun hs_ => PF.mk rfl (v_indexA Tryz.underlying30 sz3 rfl rfl) hs_) ?_
    refine e_fl rfl rfl (fun hs_ => PF.mk rfl (v_loadI0 ty3 ((ints_at hyat j hltj).mono hI1) rfl rfl rfl) hs_) ?_
    refine e_fl rfl rfl (fun hs_ => PF.mk rfl (v_loadA ty48 rfl rfl) hs_) ?_
    refine e_fl rfl rfl (fun hs_ => PF.mk rfl (v_move rfl) hs_) ?_
    refine e_fl rfl rfl (fun hs_ => PF.mk rfl (v_move rfl) hs_) ?_
    refine e_fl rfl rfl (fun hs_ => PF.mk rfl (v_indexA Tryz.underlying30 sz3 rfl rfl) hs_) ?_
    refine e_fl rfl rfl (fun hs_ => PF.mk rfl (v_loadI0 ty3 ((ints_at hyat j hltj).mono Imm.leA) rfl rfl rfl) hs_) ?_
    refine e_eff rfl (by intro cs b hc; cases hc) (by intro c hc; cases hc) ?_
    refine op_call pl174 rfl rfl ((RCount_does _ _ (Nat.le_refl _) (by omega) _ _ _ (hva.mono Imm.leA) hyj.1 (by omega))) Parts.none ?_
    rintro _ I20 _ hI20 ⟨rfl, rfl⟩
    refine ops_nil ?_
    refine e_next rfl side_allA ?_
    refine e_eff rfl (by intro cs b hc; cases hc) (by intro c hc; cases hc) ?_
    refine op_call pl174 rfl rfl ((RCount_does _ _ (Nat.le_refl _) (by omega) _ _ _ (hvb.mono Imm.leA) hyj.1 (by omega))) Parts.none ?_
    rintro _ I26 _ hI26 ⟨rfl, rfl⟩
    refine ops_nil ?_
    refine e_next rfl side_allA ?_
    refine e_fl rfl rfl (fun hs_ => PF.mk rfl (v_cmp rfl rfl rfl) hs_) ?_
    refine e_done ?_
    refine post_next ?_
    refine code_cond rfl (fun hc1 => ?_) (fun hc1 => ?_)
    · have h27 : cn a (-1 - ys[j]) < cn b (-1 - ys[j]) := by simpa using hc1
      refine code_seq ?_
      refine code_region ?_
      refine op_v (v_assign rfl) rfl ?_
      refine ops_nil ?_
      refine post_next ?_
      refine code_ret ?_
      refine post_ret_block ?_
      refine post_ret_then ?_
      refine post_ret_then ?_
      refine post_ret_block ?_
      refine post_ret_then ?_
      refine post_ret (rs := [.tmp 4]) rfl (List.Perm.refl _) (.cons (.tmp rfl) .nil) (List.nil_sublist _) ?_
      exact ⟨by have hv : vleB a b = false := by { cases hq : vleB a b; rfl; have := vleB_iff.1 hq (-1 - ys[j]) (by omega); omega }; rw [hv]; rfl, rfl⟩
    · have h27 : ¬ cn a (-1 - ys[j]) < cn b (-1 - ys[j]) := by simpa using hc1
      refine code_skip ?_
      refine post_out ?_
      refine post_next ?_
      refine code_region ?_
      refine op_v (v_move rfl) rfl ?_
      refine op_v (v_addb rfl rfl rfl (by omega)) rfl ?_
      refine op_v (v_assign rfl) rfl ?_
      refine ops_nil ?_
      refine post_again (ys.length - (j + 1)) [(2, .pointer (some ⟨b2, 0, none⟩)), (3, .pointer (some ⟨b3, 0, none⟩)), (5, .slice yd ys.length yc), (6, .int .i64 (j + 1 : Nat))] (by omega) ⟨j + 1, rfl, hltj, rfl, Imm.leA, rfl, ?_⟩ ⟨rfl, rfl, rfl, rfl, trivial⟩
      intro i h hi
      rcases Nat.lt_or_ge i j with hik | hik
      · exact hp i h hik
      have hik2 : i = j := by omega
      subst hik2
      omega
  · have hgej : j = ys.length := by simp at hc0; omega
    refine code_exit ?_
    refine post_exit_then ?_
    refine post_exit_then ?_
    refine post_exit ?_
    refine post_next ?_
    refine code_seq ?_
    refine code_region ?_
    refine op_v (v_assign rfl) rfl ?_
    refine ops_nil ?_
    refine post_next ?_
    refine code_ret ?_
    refine post_ret (rs := [.tmp 4]) rfl (List.Perm.refl _) (.cons (.tmp rfl) .nil) (List.nil_sublist _) ?_
    exact ⟨by have hv : vleB a b = true := vleB_of hys (fun n hn => by obtain ⟨i, hi, rfl⟩ := List.getElem_of_mem hn; exact hp i hi (by omega)); rw [hv]; rfl, rfl⟩
end Go.Proofs.YtdbadicpbmndbaaGreat
/- Walks: the document's answers on which term is greater. -/
set_option linter.unusedVariables false
set_option linter.unusedSimpArgs false
/- short -/
namespace Go.Proofs.YtdbadicpbmndbaaGreat
open Go Lg

theorem dec_one {gs : List Sy} {a b : T} {p : Bool} (h : stT gs a b = 1 ↔ p = true) : outV [.bool p] = .bool (decide (stT gs a b = 1)) := by
  cases p
  · simp at h; simp [outV, h]
  · simp at h; simp [outV, h]
theorem Greater_does {gs : List Sy} : ∀ (n : Nat) (a b : T), a.size ≤ n → OkG gs a → OkG gs b → ∀ (I : Imm) (vg va vb : Value), RepG I vg gs → RepT I va a → RepT I vb b →
    Does Tryz.prog 166 [vg, va, vb] I [] (fun v _ δ' => v = .bool (decide (stT gs a b = 1)) ∧ δ' = []) := by
  intro n
  induction n with
  | zero => intro a b h; have := a.size_pos; omega
  | succ n ih =>
    intro a b hn hA hB I vg va vb hg hva hvb
    obtain ⟨ga, gc, rfl⟩ := hg.shape
    obtain ⟨a0, c0, rfl, ha0⟩ := hva.shape
    obtain ⟨b0, e0, rfl, hb0⟩ := hvb.shape
    obtain ⟨_, _, _, hca, hba, ssa, hata, hsuba⟩ := hva.open
    obtain ⟨_, _, _, hcb, hbb, ssb, hatb, hsubb⟩ := hvb.open
    have hsz := size_eqT a
    have hszb := size_eqT b
    have hsa := chkT_size hA.chk
    have hsb := chkT_size hB.chk
    have hone := stT_one gs a b
    refine Does.intro Tryz.func166 rfl Tryz.ntmps166 rfl fun w0 => ?_
    refine code_seq ?_
    refine code_region ?_
    refine o_box rfl rfl rfl (fun b4 => ?_)
    refine o_box rfl rfl rfl (fun b5 => ?_)
    refine op_v (v_assign rfl) rfl ?_
    refine ops_nil ?_
    refine post_next ?_
    refine code_seq ?_
    refine code_seq ?_
    refine code_region ?_
    refine op_v (v_loadA ty48 rfl rfl) rfl ?_
    refine op_v (v_loadA ty48 rfl rfl) rfl ?_
    refine op_call pl171 rfl rfl ((often_does (hva.mono Imm.leA) (hvb.mono Imm.leA) hA.chk hB.chk)) Parts.none ?_
    rintro _ I14 _ hI14 ⟨rfl, rfl⟩
    by_cases h15 : vleB a b = true
    · rw [h15]
      refine op_v (v_not rfl) rfl ?_
      refine ops_nil ?_
      refine post_next ?_
      refine code_cond_f rfl ?_
      refine code_skip ?_
      refine post_next ?_
      refine code_seq ?_
      refine code_region ?_
      refine op_v (v_move rfl) rfl ?_
      refine op_v (v_loadA ty48 rfl rfl) rfl ?_
      refine op_call pl120 rfl rfl ((RWeight_does hA (hg.mono Imm.leA) (hva.mono Imm.leA))) Parts.none ?_
      rintro _ I19 _ hI19 ⟨rfl, rfl⟩
      refine op_v (v_move rfl) rfl ?_
      refine op_v (v_extract rfl rfl) rfl ?_
      refine op_v (v_extract rfl rfl) rfl ?_
      refine op_v (v_assign rfl) rfl ?_
      refine op_v (v_assign rfl) rfl ?_
      refine ops_nil ?_
      refine post_next ?_
      refine code_seq ?_
      refine code_region ?_
      refine op_v (v_move rfl) rfl ?_
      refine op_v (v_loadA ty48 rfl rfl) rfl ?_
      refine op_call pl120 rfl rfl ((RWeight_does hB (hg.mono Imm.leA) (hvb.mono Imm.leA))) Parts.none ?_
      rintro _ I25 _ hI25 ⟨rfl, rfl⟩
      refine op_v (v_move rfl) rfl ?_
      refine op_v (v_extract rfl rfl) rfl ?_
      refine op_v (v_extract rfl rfl) rfl ?_
      refine op_v (v_assign rfl) rfl ?_
      refine op_v (v_assign rfl) rfl ?_
      refine ops_nil ?_
      refine post_next ?_
      refine code_seq ?_
      refine code_seq ?_
      refine code_region ?_
      refine op_v (v_move rfl) rfl ?_
      refine op_v (v_move rfl) rfl ?_
      by_cases h30 : wgtG gs a ≠ wgtG gs b
      · refine op_v (v_cmptA rfl rfl rfl) rfl ?_
        refine ops_nil ?_
        refine post_next ?_
        refine code_cond_t rfl ?_
        refine code_seq ?_
        refine code_region ?_
        refine op_v (v_move rfl) rfl ?_
        refine op_v (v_move rfl) rfl ?_
        refine op_v (v_cmp rfl rfl rfl) rfl ?_
        refine op_v (v_assign rfl) rfl ?_
        refine ops_nil ?_
        refine post_next ?_
        refine code_ret ?_
        refine post_ret_then ?_
        refine post_ret (rs := [.tmp 6]) rfl (List.Perm.refl _) (.cons (.tmp rfl) .nil) (List.nil_sublist _) ?_
        exact ⟨dec_one (by rw [hone]; simp [h15]; omega), rfl⟩
      · refine op_v (v_cmpfA rfl rfl rfl) rfl ?_
        refine ops_nil ?_
        refine post_next ?_
        refine code_cond_f rfl ?_
        refine code_skip ?_
        refine post_next ?_
        refine code_seq ?_
        refine code_seq ?_
        refine code_region ?_
        refine op_v (v_fieldB 0 Tryz.underlying48 rfl rfl fz3 rfl) rfl ?_
        refine op_v (v_loadA ty3 rfl rfl) rfl ?_
        by_cases h36 : a.head < 0
        · refine op_v (v_cmptA rfl rfl rfl) rfl ?_
          refine op_v (v_move rfl) rfl ?_
          refine op_skip rfl rfl (by simp [undef]) rfl ?_
          refine op_skip rfl rfl (by simp [undef]) rfl ?_
          refine op_skip rfl rfl (by simp [undef]) rfl ?_
          refine op_v (v_pickt rfl rfl) rfl ?_
          refine ops_nil ?_
          refine post_next ?_
          refine code_cond_t rfl ?_
          refine code_seq ?_
          refine code_region ?_
          refine op_v (v_assign rfl) rfl ?_
          refine ops_nil ?_
          refine post_next ?_
          refine code_ret ?_
          refine post_ret_then ?_
          refine post_ret (rs := [.tmp 6]) rfl (List.Perm.refl _) (.cons (.tmp rfl) .nil) (List.nil_sublist _) ?_
          exact ⟨dec_one (by rw [hone]; simp; omega), rfl⟩
        · refine op_v (v_cmpfA rfl rfl rfl) rfl ?_
          refine op_v (v_move rfl) rfl ?_
          first
            | (refine op_want rfl rfl ?_
               refine op_v (v_fieldB 0 Tryz.underlying48 rfl rfl fz3 rfl) rfl ?_)
            | (refine op_skip rfl rfl (by simp [undef]) rfl ?_)
          refine op_want rfl rfl ?_
          refine op_v (v_loadA ty3 rfl rfl) rfl ?_
          by_cases h40 : b.head < 0
          · first
              | (refine op_want rfl rfl ?_
                 refine op_v (v_cmptA rfl rfl rfl) rfl ?_)
              | (refine op_skip rfl rfl (by simp [undef]) rfl ?_)
            refine op_v (v_pickf rfl rfl) rfl ?_
            refine ops_nil ?_
            refine post_next ?_
            refine code_cond_t rfl ?_
            refine code_seq ?_
            refine code_region ?_
            refine op_v (v_assign rfl) rfl ?_
            refine ops_nil ?_
            refine post_next ?_
            refine code_ret ?_
            refine post_ret_then ?_
            refine post_ret (rs := [.tmp 6]) rfl (List.Perm.refl _) (.cons (.tmp rfl) .nil) (List.nil_sublist _) ?_
            exact ⟨dec_one (by rw [hone]; simp; omega), rfl⟩
          · first
              | (refine op_want rfl rfl ?_
                 refine op_v (v_cmpfA rfl rfl rfl) rfl ?_)
              | (refine op_skip rfl rfl (by simp [undef]) rfl ?_)
            refine op_v (v_pickf rfl rfl) rfl ?_
            refine ops_nil ?_
            refine post_next ?_
            refine code_cond_f rfl ?_
            refine code_skip ?_
            refine post_next ?_
            refine code_seq ?_
            refine code_seq ?_
            refine code_region ?_
            refine op_v (v_fieldB 0 Tryz.underlying48 rfl rfl fz3 rfl) rfl ?_
            refine op_v (v_loadA ty3 rfl rfl) rfl ?_
            refine op_v (v_fieldB 0 Tryz.underlying48 rfl rfl fz3 rfl) rfl ?_
            refine op_v (v_loadA ty3 rfl rfl) rfl ?_
            by_cases h46 : a.head ≠ b.head
            · refine op_v (v_cmptA rfl rfl rfl) rfl ?_
              refine ops_nil ?_
              refine post_next ?_
              refine code_cond_t rfl ?_
              refine code_seq ?_
              refine code_region ?_
              refine op_v (v_fieldB 0 Tryz.underlying48 rfl rfl fz3 rfl) rfl ?_
              refine op_v (v_loadA ty3 rfl rfl) rfl ?_
              refine op_v (v_fieldB 0 Tryz.underlying48 rfl rfl fz3 rfl) rfl ?_
              refine op_v (v_loadA ty3 rfl rfl) rfl ?_
              refine op_v (v_cmp rfl rfl rfl) rfl ?_
              refine op_v (v_assign rfl) rfl ?_
              refine ops_nil ?_
              refine post_next ?_
              refine code_ret ?_
              refine post_ret_then ?_
              refine post_ret (rs := [.tmp 6]) rfl (List.Perm.refl _) (.cons (.tmp rfl) .nil) (List.nil_sublist _) ?_
              exact ⟨dec_one (by rw [hone]; simp [h15]; omega), rfl⟩
            · have hhd : a.head = b.head := by omega
              have hlen : (a.args.length : Int) = b.args.length := by rw [hA.arity (by omega), hB.arity (by omega), hhd]
              have hst : (stT gs a b = 1) ↔ stL gs a.args b.args = 1 := by
                rw [hone]
                constructor
                · rintro ⟨_, h | ⟨_, _, _, h | ⟨_, h⟩⟩⟩
                  · omega
                  · omega
                  · exact h
                · intro h; exact ⟨h15, .inr ⟨by omega, by omega, by omega, .inr ⟨hhd, h⟩⟩⟩
              refine op_v (v_cmpfA rfl rfl rfl) rfl ?_
              refine ops_nil ?_
              refine post_next ?_
              refine code_cond_f rfl ?_
              refine code_skip ?_
              refine post_next ?_
              refine code_seq ?_
              refine code_seq ?_
              refine code_region ?_
              refine op_v (v_assign rfl) rfl ?_
              refine ops_nil ?_
              refine post_next ?_
              refine code_block ?_
              refine code_loop (fun m σ' I' δ' => ∃ k : Nat, m = a.args.length - k ∧ k ≤ a.args.length ∧ σ' = [(0, .slice ga gs.length gc), (4, .pointer (some ⟨b4, 0, none⟩)), (5, .pointer (some ⟨b5, 0, none⟩)), (11, .int .i64 k)] ∧ I.le I' ∧ δ' = [.box b5 48 [.int .i64 b.head, .slice b0 b.args.length e0], .box b4 48 [.int .i64 a.head, .slice a0 a.args.length c0]] ∧ stL gs a.args b.args = stL gs (a.args.drop k) (b.args.drop k)) a.args.length [(0, .slice ga gs.length gc), (4, .pointer (some ⟨b4, 0, none⟩)), (5, .pointer (some ⟨b5, 0, none⟩)), (11, .int .i64 (0 : Nat))] ⟨0, rfl, Nat.zero_le _, rfl, Imm.leA, rfl, rfl⟩ ⟨rfl, rfl, rfl, rfl, trivial⟩ ?_
              rintro m _ I1 _ ⟨k, rfl, hk, rfl, hI1, rfl, hp⟩
              refine code_seq ?_
              refine code_seq ?_
              refine code_region ?_
              refine op_v (v_move rfl) rfl ?_
              refine op_v (v_fieldB 1 Tryz.underlying48 rfl rfl fz46 rfl) rfl ?_
              refine op_v (v_loadA ty46 rfl rfl) rfl ?_
              refine op_v (v_len Tryz.underlying46 rfl) rfl ?_
              refine op_v (v_cmp rfl rfl rfl) rfl ?_
              refine ops_nil ?_
              refine post_next ?_
              refine code_cond rfl (fun hc4 => ?_) (fun hc4 => ?_)
              · have hlt : k < a.args.length := by simpa using hc4
                have hlt2 : k < b.args.length := by omega
                have hs1 := (hata k hlt).isSome
                have hs2 := (hatb k hlt2).isSome
                have hm := sizeL_mem a.args k hlt
                have hm2 := sizeL_mem b.args k hlt2
                have hcd := stL_drop gs a.args b.args k hlt hlt2
                have hA2 := (hA.child k hlt).1
                have hB2 := (hB.child k hlt2).1
                refine code_skip ?_
                refine post_next ?_
                refine code_seq ?_
                refine code_block ?_
                refine code_seq ?_
                refine code_draw (.fl 0 (.fl 1 (.fl 2 (.fl 3 (.fl 4 (.fl 5 (.fl 6 (.fl 7 (.fl 8 (.fl 9 (.ef 10 (.fl 11 .done)))))))))))) (fun _ => _) mixed (by kernel_rfl) (by kernel_rfl) (fun _ => (List.Sublist.refl _)) ?_
                refine e_fl rfl rfl (fun hs_ => PF.mk rfl (v_fieldB 1 Tryz.underlying48 rfl rfl fz46 rfl) hs_) ?_
                refine e_fl rfl rfl (fun hs_ => PF.mk rfl (v_loadA ty46 rfl rfl) hs_) ?_
                refine e_fl rfl rfl (fun hs_ => PF.mk rfl (v_move rfl) hs_) ?_
                refine e_fl rfl rfl (fun hs_ => PF.mk rfl (v_indexA Tryz.underlying46 sz48 rfl rfl) hs_) ?_
                refine e_fl rfl rfl (fun hs_ => PF.mk rfl (v_loadI0 ty48 ((hata k hlt).mono hI1) rfl rfl rfl) hs_) ?_
                refine e_fl rfl rfl (fun hs_ => PF.mk rfl (v_fieldB 1 Tryz.underlying48 rfl rfl fz46 rfl) hs_) ?_
                refine e_fl rfl rfl (fun hs_ => PF.mk rfl (v_loadA ty46 rfl rfl) hs_) ?_
                refine e_fl rfl rfl (fun hs_ => PF.mk rfl (v_move rfl) hs_) ?_
                refine e_fl rfl rfl (fun hs_ => PF.mk rfl (v_indexA Tryz.underlying46 sz48 rfl rfl) hs_) ?_
                refine e_fl rfl rfl (fun hs_ => PF.mk rfl (v_loadI0 ty48 ((hatb k hlt2).mono hI1) rfl rfl rfl) hs_) ?_
                refine e_eff rfl (by intro cs b hc; cases hc) (by intro c hc; cases hc) ?_
                refine op_call pl108 rfl rfl ((Same_does _ _ _ _ _ ((hsuba k hlt).mono hI1) ((hsubb k hlt2).mono hI1) (by omega) (by omega))) Parts.none ?_
                rintro _ I69 _ hI69 ⟨rfl, rfl⟩
                refine ops_nil ?_
                refine e_next rfl side_allA ?_
                by_cases h70 : a.args[k] = b.args[k]
                · rw [show decide (a.args[k] = b.args[k]) = true by simpa using h70]
                  have hz : stT gs a.args[k] b.args[k] = 0 := by rw [h70, stT_self]
                  refine e_fl rfl rfl (fun hs_ => PF.mk rfl (v_not rfl) hs_) ?_
                  refine e_done ?_
                  refine post_next ?_
                  refine code_cond_f rfl ?_
                  refine code_skip ?_
                  refine post_out ?_
                  refine post_next ?_
                  refine code_region ?_
                  refine op_v (v_move rfl) rfl ?_
                  refine op_v (v_addb rfl rfl rfl (by omega)) rfl ?_
                  refine op_v (v_assign rfl) rfl ?_
                  refine ops_nil ?_
                  refine post_again (a.args.length - (k + 1)) [(0, .slice ga gs.length gc), (4, .pointer (some ⟨b4, 0, none⟩)), (5, .pointer (some ⟨b5, 0, none⟩)), (11, .int .i64 (k + 1 : Nat))] (by omega) ⟨k + 1, rfl, hlt, rfl, Imm.leA, rfl, by rw [hp, hcd, if_neg (by omega)]⟩ ⟨rfl, rfl, rfl, rfl, trivial⟩
                · rw [show decide (a.args[k] = b.args[k]) = false by simpa using h70]
                  have hz : stT gs a.args[k] b.args[k] ≠ 0 := fun e => h70 (stT_zero hA2 hB2 e)
                  refine e_fl rfl rfl (fun hs_ => PF.mk rfl (v_not rfl) hs_) ?_
                  refine e_done ?_
                  refine post_next ?_
                  refine code_cond_t rfl ?_
                  refine code_seq ?_
                  refine code_draw (.fl 0 (.fl 1 (.fl 2 (.fl 3 (.fl 4 (.fl 5 (.fl 6 (.fl 7 (.fl 8 (.fl 9 (.fl 10 (.ef 11 (.ef 12 .done))))))))))))) (fun _ => _) mixed (by kernel_rfl) (by kernel_rfl) (fun _ => (List.Sublist.refl _)) ?_
                  refine e_fl rfl rfl (fun hs_ => PF.mk rfl (v_move rfl) hs_) ?_
                  refine e_fl rfl rfl (fun hs_ => PF.mk rfl (v_fieldB 1 Tryz.underlying48 rfl rfl fz46 rfl) hs_) ?_
                  refine e_fl rfl rfl (fun hs_ => PF.mk rfl (v_loadA ty46 rfl rfl) hs_) ?_
                  refine e_fl rfl rfl (fun hs_ => PF.mk rfl (v_move rfl) hs_) ?_
                  refine e_fl rfl rfl (fun hs_ => PF.mk rfl (v_indexA Tryz.underlying46 sz48 rfl rfl) hs_) ?_
                  refine e_fl rfl rfl (fun hs_ => PF.mk rfl (v_loadI0 ty48 ((hata k hlt).mono Imm.leA) rfl rfl rfl) hs_) ?_
                  refine e_fl rfl rfl (fun hs_ => PF.mk rfl (v_fieldB 1 Tryz.underlying48 rfl rfl fz46 rfl) hs_) ?_
                  refine e_fl rfl rfl (fun hs_ => PF.mk rfl (v_loadA ty46 rfl rfl) hs_) ?_
                  refine e_fl rfl rfl (fun hs_ => PF.mk rfl (v_move rfl) hs_) ?_
                  refine e_fl rfl rfl (fun hs_ => PF.mk rfl (v_indexA Tryz.underlying46 sz48 rfl rfl) hs_) ?_
                  refine e_fl rfl rfl (fun hs_ => PF.mk rfl (v_loadI0 ty48 ((hatb k hlt2).mono Imm.leA) rfl rfl rfl) hs_) ?_
                  refine e_eff rfl (by intro cs b hc; cases hc) (by intro c hc; cases hc) ?_
                  refine op_call pl166 rfl rfl ((ih a.args[k] b.args[k] (by omega) hA2 hB2 _ _ _ _ (hg.mono Imm.leA) ((hsuba k hlt).mono Imm.leA) ((hsubb k hlt2).mono Imm.leA))) Parts.none ?_
                  rintro _ I82 _ hI82 ⟨rfl, rfl⟩
                  refine ops_nil ?_
                  refine e_next rfl side_allA ?_
                  refine e_eff rfl (by intro cs b hc; cases hc) (by intro c hc; cases hc) ?_
                  refine op_v (v_assign rfl) rfl ?_
                  refine ops_nil ?_
                  refine e_next rfl (side_nil (by kernel_rfl)) ?_
                  refine e_done ?_
                  refine post_next ?_
                  refine code_ret ?_
                  refine post_ret_block ?_
                  refine post_ret_then ?_
                  refine post_ret_then ?_
                  refine post_ret_block ?_
                  refine post_ret_then ?_
                  refine post_ret (rs := [.tmp 6]) rfl (List.Perm.refl _) (.cons (.tmp rfl) .nil) (List.nil_sublist _) ?_
                  exact ⟨dec_one (by rw [hst, hp, hcd, if_pos hz]; simp), rfl⟩
              · have hge : ¬ k < a.args.length := by simpa using hc4
                rw [List.drop_eq_nil_of_le (by omega)] at hp
                refine code_exit ?_
                refine post_exit_then ?_
                refine post_exit_then ?_
                refine post_exit ?_
                refine post_next ?_
                refine code_seq ?_
                refine code_region ?_
                refine op_v (v_assign rfl) rfl ?_
                refine ops_nil ?_
                refine post_next ?_
                refine code_ret ?_
                refine post_ret (rs := [.tmp 6]) rfl (List.Perm.refl _) (.cons (.tmp rfl) .nil) (List.nil_sublist _) ?_
                exact ⟨dec_one (by rw [hst, hp]; simp [stL]), rfl⟩
    · have h15' : vleB a b = false := by simpa using h15
      rw [h15']
      refine op_v (v_not rfl) rfl ?_
      refine ops_nil ?_
      refine post_next ?_
      refine code_cond_t rfl ?_
      refine code_seq ?_
      refine code_region ?_
      refine op_v (v_assign rfl) rfl ?_
      refine ops_nil ?_
      refine post_next ?_
      refine code_ret ?_
      refine post_ret_then ?_
      refine post_ret (rs := [.tmp 6]) rfl (List.Perm.refl _) (.cons (.tmp rfl) .nil) (List.nil_sublist _) ?_
      exact ⟨dec_one (by rw [hone]; simp [h15']), rfl⟩
end Go.Proofs.YtdbadicpbmndbaaGreat
/- Walks: the document's answers on which row is greater. -/
set_option linter.unusedVariables false
set_option linter.unusedSimpArgs false
/- short -/
namespace Go.Proofs.YtdbadicpbmndbaaGreat
open Go Lg

/-! ### plain -/
theorem rsL_permR : ∀ (l : List T) {m m' : List T}, m.Perm m' → rsL l m = rsL l m'
  | [], _, _, _ => rfl
  | t :: r, m, m', h => by
    simp only [rsL]
    by_cases hm : t ∈ m
    · rw [if_pos hm, if_pos (h.mem_iff.1 hm), rsL_permR r (h.erase t)]
    · rw [if_neg hm, if_neg (fun q => hm (h.mem_iff.2 q)), rsL_permR r h]
/-- those that are not marked -/
def unU : List T → List Bool → List T
  | t :: r, u :: q => if u = true then unU r q else t :: unU r q
  | _, _ => []
theorem unU_mem : ∀ {b : List T} {us : List Bool} (hl : us.length = b.length) {x : T}, x ∈ unU b us ↔ ∃ (j : Nat) (h : j < b.length), us[j]'(by omega) = false ∧ b[j] = x
  | [], [], _, x => by simp [unU]
  | t :: r, u :: q, hl, x => by
    have hl' : q.length = r.length := by simpa using hl
    have ih := unU_mem (b := r) hl' (x := x)
    have key : (∃ (j : Nat) (h : j < (t :: r).length), (u :: q)[j]'(by rw [hl]; exact h) = false ∧ (t :: r)[j] = x) ↔ (u = false ∧ t = x) ∨ ∃ (j : Nat) (h : j < r.length), q[j]'(by omega) = false ∧ r[j] = x := by
      constructor
      · rintro ⟨j, hj, h1, h2⟩
        cases j with
        | zero => exact .inl ⟨h1, h2⟩
        | succ j => exact .inr ⟨j, by simpa using hj, by simpa using h1, by simpa using h2⟩
      · rintro (⟨h1, h2⟩ | ⟨j, hj, h1, h2⟩)
        · exact ⟨0, by simp, h1, h2⟩
        · exact ⟨j + 1, by simpa using hj, by simpa using h1, by simpa using h2⟩
    rw [key]
    cases u
    · simp only [unU, Bool.false_eq_true, if_false, List.mem_cons, ih, true_and]
      exact or_congr_left eq_comm
    · simp only [unU, if_true, ih, Bool.true_eq_false, false_and, false_or]
theorem unU_set : ∀ {b : List T} {us : List Bool} (hl : us.length = b.length) {j : Nat} (hj : j < b.length), us[j]'(by omega) = false → (unU b us).Perm (b[j] :: unU b (us.set j true))
  | [], _, _, j, hj, _ => by simp at hj
  | t :: r, [], hl, _, _, _ => by simp at hl
  | t :: r, u :: q, hl, j, hj, hu => by
    have hl' : q.length = r.length := by simpa using hl
    cases j with
    | zero =>
      simp only [List.getElem_cons_zero] at hu
      subst hu
      simp [unU]
    | succ j =>
      simp only [List.getElem_cons_succ] at hu
      have ih := unU_set hl' (by simpa using hj) hu
      simp only [List.getElem_cons_succ, List.set_cons_succ]
      cases u
      · simp only [unU, Bool.false_eq_true, if_false]
        exact (ih.cons t).trans (List.Perm.swap _ _ _)
      · simp only [unU, if_true]; exact ih
theorem unU_none : ∀ b : List T, unU b (List.replicate b.length false) = b
  | [] => rfl
  | t :: r => by simp [unU, List.replicate_succ, unU_none r]
theorem rsL_step (a : List T) (U : List T) {i : Nat} (hi : i < a.length) : rsL (a.drop i) U = if a[i] ∈ U then rsL (a.drop (i + 1)) (U.erase a[i]) else a[i] :: rsL (a.drop (i + 1)) U := by
  rw [List.drop_eq_getElem_cons hi]; rfl
theorem RepS.row {I : Imm} {v : Value} {ts : List T} (h : RepS I v ts) : ∃ (A : Option Addr) (c : Nat) (ss : Nat → Option Addr × Nat) (xs : List Value), v = .slice A ts.length c ∧ Cells I A xs ∧ RowT I xs ts ∧ ts.length ≤ 4398046511104 ∧ ∀ i (h : i < ts.length), At I A (i * 2) [.int .i64 ts[i].head, .slice (ss i).1 ts[i].args.length (ss i).2] ∧ RepT I (.agg #[.int .i64 ts[i].head, .slice (ss i).1 ts[i].args.length (ss i).2]) ts[i] := by
  obtain ⟨A, c, ss, L, hc, hb, hat2, hr, hsub0⟩ := h
  have hs := fun i (hi : i < ts.length) => RepT.mk _ _ (hr i hi) (hsub0 i hi)
  obtain ⟨h1, h2⟩ := RowT.of hat2 hs
  exact ⟨A, c, ss, _, rfl, h1, h2, hb, fun i hi => ⟨hat2 i hi, hs i hi⟩⟩
/-! ### walks -/
abbrev bRow (g n : Nat) (us : List Bool) : Ent := .row (.slice (some ⟨g, 0, none⟩) n n) 4 1 n (us.map Value.bool)
theorem without_does {I : Imm} {va vb : Value} {a b : List T} (ha : RepS I va a) (hb : RepS I vb b) (hsa : ∀ t ∈ a, t.size ≤ 1000000000) (hsb : ∀ t ∈ b, t.size ≤ 1000000000) (hla : a.length ≤ 1000000) (hlb : b.length ≤ 1000000) :
    Does Tryz.prog 141 [va, vb] I [] (fun v I' δ' => RepS I' v (rsL a b) ∧ δ' = []) := by
  obtain ⟨aA, aC, aS, xa, rfl, hca, hra, hba, hea⟩ := ha.row
  obtain ⟨bA, bC, bS, xb, rfl, hcb, hrb, hbb, heb⟩ := hb.row
  have hrl := rsL_len a b
  refine Does.intro Tryz.func141 rfl Tryz.ntmps141 rfl fun w0 => ?_
  refine code_seq ?_
  refine code_region ?_
  refine op_v (v_assign rfl) rfl ?_
  refine ops_nil ?_
  refine post_next ?_
  refine code_seq ?_
  refine code_region ?_
  refine op_v (v_move rfl) rfl ?_
  refine op_v (v_len Tryz.underlying46 rfl) rfl ?_
  refine o_makeSlice (z := .bool false) (size := 1) (bytes := 1) (xs := (List.replicate b.length false).map Value.bool) Tryz.underlying136 (by kernel_rfl) rfl rfl rfl (by omega) (by omega) (by rw [Nat.mul_one]; exact (madeCells_one _ _).trans (by simp)) (fun g12 => ?_)
  refine op_v (v_assign rfl) rfl ?_
  refine ops_nil ?_
  refine post_next ?_
  refine code_seq ?_
  refine code_region ?_
  refine op_v (v_assign rfl) rfl ?_
  refine ops_nil ?_
  refine post_next ?_
  refine code_seq ?_
  refine code_seq ?_
  refine code_region ?_
  refine op_v (v_assign rfl) rfl ?_
  refine ops_nil ?_
  refine post_next ?_
  refine code_block ?_
  have hg12 : (some (⟨g12, 0, none⟩ : Addr)).isSome = true := rfl
  refine CodeJ.view (View.nilRow 48 2) ?_
  refine code_loop (fun m σ' I' δ' => ∃ (i : Nat) (A : Option Addr) (cr : Nat) (out : List T) (xs : List Value) (us : List Bool), m = a.length - i ∧ i ≤ a.length ∧ σ' = [(0, .slice aA a.length aC), (1, .slice bA b.length bC), (5, .slice (some ⟨g12, 0, none⟩) b.length b.length), (6, .slice A out.length cr), (7, .int .i64 i)] ∧ I.le I' ∧ δ' = [tRow A cr out.length xs, bRow g12 b.length us] ∧ RowT I' xs out ∧ us.length = b.length ∧ out.length ≤ i ∧ rsL a b = out ++ rsL (a.drop i) (unU b us)) a.length [(0, .slice aA a.length aC), (1, .slice bA b.length bC), (5, .slice (some ⟨g12, 0, none⟩) b.length b.length), (6, .slice none 0 0), (7, .int .i64 (0 : Nat))] ⟨0, none, 0, [], [], _, rfl, Nat.zero_le _, rfl, Imm.le_refl _, rfl, RowT.nil _, by simp, by simp, by rw [unU_none]; rfl⟩ ⟨rfl, rfl, rfl, rfl, rfl, trivial⟩ ?_
  rintro m _ I0 _ ⟨i, A, cr, out, xs, us, rfl, hi, rfl, hI0, rfl, hx, hul, hol, hrs⟩
  refine code_seq ?_
  refine code_seq ?_
  refine code_region ?_
  refine op_v (v_move rfl) rfl ?_
  refine op_v (v_move rfl) rfl ?_
  refine op_v (v_len Tryz.underlying46 rfl) rfl ?_
  refine op_v (v_cmp rfl rfl rfl) rfl ?_
  refine ops_nil ?_
  refine post_next ?_
  refine code_cond rfl (fun hc0 => ?_) (fun hc0 => ?_)
  · have hlt : i < a.length := by simpa using hc0
    have hstep := rsL_step a (unU b us) hlt
    obtain ⟨hat1, hrt1⟩ := hea i hlt
    have hs1 := hat1.isSome
    refine code_skip ?_
    refine post_next ?_
    refine code_seq ?_
    refine code_block ?_
    refine code_seq ?_
    refine code_region ?_
    refine op_v (v_assign rfl) rfl ?_
    refine ops_nil ?_
    refine post_next ?_
    refine code_seq ?_
    refine code_seq ?_
    refine code_region ?_
    refine op_v (v_assign rfl) rfl ?_
    refine ops_nil ?_
    refine post_next ?_
    refine code_block ?_
    refine code_loop (fun m σ' I' δ' => ∃ (k : Nat) (at' : Int), m = b.length - k ∧ k ≤ b.length ∧ σ' = [(0, .slice aA a.length aC), (1, .slice bA b.length bC), (5, .slice (some ⟨g12, 0, none⟩) b.length b.length), (6, .slice A out.length cr), (7, .int .i64 i), (8, .int .i64 at'), (9, .int .i64 k)] ∧ I0.le I' ∧ δ' = [tRow A cr out.length xs, bRow g12 b.length us] ∧ ((at' = -1 ∧ ∀ (j : Nat) (h : j < b.length), j < k → us[j]'(by omega) = false → b[j] ≠ a[i]) ∨ ∃ (j : Nat) (h : j < b.length), at' = j ∧ us[j]'(by omega) = false ∧ b[j] = a[i])) b.length [(0, .slice aA a.length aC), (1, .slice bA b.length bC), (5, .slice (some ⟨g12, 0, none⟩) b.length b.length), (6, .slice A out.length cr), (7, .int .i64 i), (8, .int .i64 (-1)), (9, .int .i64 (0 : Nat))] ⟨0, -1, rfl, Nat.zero_le _, rfl, Imm.le_refl _, rfl, .inl ⟨rfl, fun j _ h => by omega⟩⟩ ⟨rfl, rfl, rfl, rfl, rfl, rfl, rfl, trivial⟩ ?_
    rintro m _ I1 _ ⟨k, at', rfl, hk, rfl, hI1, rfl, hat'⟩
    refine code_seq ?_
    refine code_seq ?_
    refine code_region ?_
    refine op_v (v_move rfl) rfl ?_
    refine op_v (v_move rfl) rfl ?_
    refine op_v (v_len Tryz.underlying46 rfl) rfl ?_
    by_cases h22 : k < b.length
    · refine op_v (v_cmptA rfl rfl rfl) rfl ?_
      refine op_v (v_move rfl) rfl ?_
      refine op_want rfl rfl ?_
      refine op_v (v_move rfl) rfl ?_
      by_cases h25 : at' < 0
      · have hno : ∀ (j : Nat) (h : j < b.length), j < k → us[j]'(by omega) = false → b[j] ≠ a[i] := by
          rcases hat' with ⟨_, h⟩ | ⟨j, hj, h, _⟩
          · exact h
          · omega
        have hatm : at' = -1 := by
          rcases hat' with ⟨h, _⟩ | ⟨j, hj, h, _⟩
          · exact h
          · omega
        subst hatm
        obtain ⟨hat2, hrt2⟩ := heb k h22
        have hs2 := hat2.isSome
        have hku : k < us.length := by omega
        first
          | (refine op_want rfl rfl ?_
             refine op_v (v_cmptA rfl rfl rfl) rfl ?_)
          | (refine op_skip rfl rfl (by simp [undef]) rfl ?_)
        refine op_v (v_pickt rfl rfl) rfl ?_
        refine ops_nil ?_
        refine post_next ?_
        refine code_cond_t rfl ?_
        refine code_skip ?_
        refine post_next ?_
        refine code_seq ?_
        refine code_block ?_
        refine code_seq ?_
        refine code_draw (.fl 0 (.fl 1 (.fl 2 (.fl 3 (.fl 4 (.fl 5 (.fl 6 (.fl 7 (.fl 8 (.fl 9 (.fl 10 (.fl 11 (.fl 12 (.fl 13 (.ef 14 (.fl 15 .done)))))))))))))))) (fun _ => _) mixed (by kernel_rfl) (by kernel_rfl) (fun _ => (List.Sublist.refl _)) ?_
        refine e_fl rfl rfl (fun hs_ => PF.mk rfl (v_move rfl) hs_) ?_
        refine e_fl rfl rfl (fun hs_ => PF.mk rfl (v_move rfl) hs_) ?_
        refine e_fl rfl rfl (fun hs_ => PF.mk rfl (v_indexA Tryz.underlying136 sz4 rfl rfl) hs_) ?_
        refine e_fl rfl rfl (fun hs_ => PF.mk rfl (v_loadRow ty4 rfl (Has.there Has.here) rfl (ld_at (cs := us.map Value.bool) (o := k * 1) (x := .bool us[k]) (by simp [hku]))) hs_) ?_
        by_cases h33 : us[k] = true
        · rw [h33]
          refine e_fl rfl rfl (fun hs_ => PF.mk rfl (v_not rfl) hs_) ?_
          refine e_fl rfl rfl (fun hs_ => PF.mk rfl (v_move rfl) hs_) ?_
          refine e_fl rfl rfl (fun hs_ => PF.mks rfl (by intro c hc; cases hc) rfl rfl (by simp [undef]) hs_) ?_
          refine e_fl rfl rfl (fun hs_ => PF.mks rfl (by intro c hc; cases hc) rfl rfl (by simp [undef]) hs_) ?_
          refine e_fl rfl rfl (fun hs_ => PF.mks rfl (by intro c hc; cases hc) rfl rfl (by simp [undef]) hs_) ?_
          refine e_fl rfl rfl (fun hs_ => PF.mks rfl (by intro c hc; cases hc) rfl rfl (by simp [undef]) hs_) ?_
          refine e_fl rfl rfl (fun hs_ => PF.mks rfl (by intro c hc; cases hc) rfl rfl (by simp [undef]) hs_) ?_
          refine e_fl rfl rfl (fun hs_ => PF.mks rfl (by intro c hc; cases hc) rfl rfl (by simp [undef]) hs_) ?_
          refine e_fl rfl rfl (fun hs_ => PF.mks rfl (by intro c hc; cases hc) rfl rfl (by simp [undef]) hs_) ?_
          refine e_fl rfl rfl (fun hs_ => PF.mks rfl (by intro c hc; cases hc) rfl rfl (by simp [undef]) hs_) ?_
          refine e_eff rfl (by intro cs b hc; cases hc) (by intro c hc; cases hc) ?_
          refine op_skip rfl rfl (by simp [undef]) rfl ?_
          refine ops_nil ?_
          refine e_next rfl side_allA ?_
          refine e_fl rfl rfl (fun hs_ => PF.mk rfl (v_pickf rfl rfl) hs_) ?_
          refine e_done ?_
          refine post_next ?_
          refine code_cond_f rfl ?_
          refine code_skip ?_
          refine post_out ?_
          refine post_next ?_
          refine code_region ?_
          refine op_v (v_move rfl) rfl ?_
          refine op_v (v_addb rfl rfl rfl (by omega)) rfl ?_
          refine op_v (v_assign rfl) rfl ?_
          refine ops_nil ?_
          refine post_again (b.length - (k + 1)) [(0, .slice aA a.length aC), (1, .slice bA b.length bC), (5, .slice (some ⟨g12, 0, none⟩) b.length b.length), (6, .slice A out.length cr), (7, .int .i64 i), (8, .int .i64 (-1)), (9, .int .i64 (k + 1 : Nat))] (by omega) ⟨k + 1, -1, rfl, h22, rfl, Imm.leA, rfl, .inl ⟨rfl, fun j hj hjk hu => ?_⟩⟩ ⟨rfl, rfl, rfl, rfl, rfl, rfl, rfl, trivial⟩
          rcases Nat.lt_or_ge j k with hq | hq
          · exact hno j hj hq hu
          have hq2 : j = k := by omega
          subst hq2
          rw [h33] at hu; cases hu
        · have h33' : us[k] = false := by simpa using h33
          rw [h33']
          refine e_fl rfl rfl (fun hs_ => PF.mk rfl (v_not rfl) hs_) ?_
          refine e_fl rfl rfl (fun hs_ => PF.mk rfl (v_move rfl) hs_) ?_
          refine e_fl rfl rfl (fun hs_ => PF.mkg rfl rfl rfl (v_move rfl) hs_) ?_
          refine e_fl rfl rfl (fun hs_ => PF.mkg rfl rfl rfl (v_move rfl) hs_) ?_
          refine e_fl rfl rfl (fun hs_ => PF.mkg rfl rfl rfl (v_indexA Tryz.underlying46 sz48 rfl rfl) hs_) ?_
          refine e_fl rfl rfl (fun hs_ => PF.mkg rfl rfl rfl (v_loadI0 ty48 (hat1.mono Imm.leA) rfl rfl rfl) hs_) ?_
          refine e_fl rfl rfl (fun hs_ => PF.mkg rfl rfl rfl (v_move rfl) hs_) ?_
          refine e_fl rfl rfl (fun hs_ => PF.mkg rfl rfl rfl (v_move rfl) hs_) ?_
          refine e_fl rfl rfl (fun hs_ => PF.mkg rfl rfl rfl (v_indexA Tryz.underlying46 sz48 rfl rfl) hs_) ?_
          refine e_fl rfl rfl (fun hs_ => PF.mkg rfl rfl rfl (v_loadI0 ty48 (hat2.mono Imm.leA) rfl rfl rfl) hs_) ?_
          refine e_eff rfl (by intro cs b hc; cases hc) (by intro c hc; cases hc) ?_
          refine op_want rfl rfl ?_
          refine op_call pl108 rfl rfl ((Same_does _ _ _ _ _ (hrt1.mono Imm.leA) (hrt2.mono Imm.leA) (hsa _ (List.getElem_mem _)) (hsb _ (List.getElem_mem _)))) Parts.none ?_
          rintro _ I43 _ hI43 ⟨rfl, rfl⟩
          refine ops_nil ?_
          refine e_next rfl side_allA ?_
          by_cases h44 : a[i] = b[k]
          · rw [show decide (a[i] = b[k]) = true by simpa using h44]
            refine e_fl rfl rfl (fun hs_ => PF.mk rfl (v_pickt rfl rfl) hs_) ?_
            refine e_done ?_
            refine post_next ?_
            refine code_cond_t rfl ?_
            refine code_region ?_
            refine op_v (v_move rfl) rfl ?_
            refine op_v (v_assign rfl) rfl ?_
            refine ops_nil ?_
            refine post_out ?_
            refine post_next ?_
            refine code_region ?_
            refine op_v (v_move rfl) rfl ?_
            refine op_v (v_addb rfl rfl rfl (by omega)) rfl ?_
            refine op_v (v_assign rfl) rfl ?_
            refine ops_nil ?_
            refine post_again (b.length - (k + 1)) [(0, .slice aA a.length aC), (1, .slice bA b.length bC), (5, .slice (some ⟨g12, 0, none⟩) b.length b.length), (6, .slice A out.length cr), (7, .int .i64 i), (8, .int .i64 k), (9, .int .i64 (k + 1 : Nat))] (by omega) ⟨k + 1, k, rfl, h22, rfl, Imm.leA, rfl, .inr ⟨k, h22, rfl, h33', h44.symm⟩⟩ ⟨rfl, rfl, rfl, rfl, rfl, rfl, rfl, trivial⟩
          · rw [show decide (a[i] = b[k]) = false by simpa using h44]
            refine e_fl rfl rfl (fun hs_ => PF.mk rfl (v_pickt rfl rfl) hs_) ?_
            refine e_done ?_
            refine post_next ?_
            refine code_cond_f rfl ?_
            refine code_skip ?_
            refine post_out ?_
            refine post_next ?_
            refine code_region ?_
            refine op_v (v_move rfl) rfl ?_
            refine op_v (v_addb rfl rfl rfl (by omega)) rfl ?_
            refine op_v (v_assign rfl) rfl ?_
            refine ops_nil ?_
            refine post_again (b.length - (k + 1)) [(0, .slice aA a.length aC), (1, .slice bA b.length bC), (5, .slice (some ⟨g12, 0, none⟩) b.length b.length), (6, .slice A out.length cr), (7, .int .i64 i), (8, .int .i64 (-1)), (9, .int .i64 (k + 1 : Nat))] (by omega) ⟨k + 1, -1, rfl, h22, rfl, Imm.leA, rfl, .inl ⟨rfl, fun j hj hjk hu => ?_⟩⟩ ⟨rfl, rfl, rfl, rfl, rfl, rfl, rfl, trivial⟩
            rcases Nat.lt_or_ge j k with hq | hq
            · exact hno j hj hq hu
            have hq2 : j = k := by omega
            subst hq2
            exact fun e => h44 e.symm
      · first
          | (refine op_want rfl rfl ?_
             refine op_v (v_cmpfA rfl rfl rfl) rfl ?_)
          | (refine op_skip rfl rfl (by simp [undef]) rfl ?_)
        refine op_v (v_pickt rfl rfl) rfl ?_
        refine ops_nil ?_
        refine post_next ?_
        refine code_cond_f rfl ?_
        refine code_exit ?_
        refine post_exit_then ?_
        refine post_exit_then ?_
        refine post_exit ?_
        refine post_next ?_
        refine code_seq ?_
        refine code_region ?_
        refine op_v (v_move rfl) rfl ?_
        by_cases h47 : at' < 0
        · have hno2 : a[i] ∉ unU b us := by
            rcases hat' with ⟨_, h⟩ | ⟨j, hj, h, _⟩
            · intro hm
              obtain ⟨j, hj, h1, h2⟩ := (unU_mem hul).1 hm
              exact h j hj (by omega) h1 h2
            · omega
          rw [if_neg hno2] at hstep
          refine op_v (v_cmptA rfl rfl rfl) rfl ?_
          refine ops_nil ?_
          refine post_next ?_
          refine code_cond_t rfl ?_
          refine code_region ?_
          refine op_v (v_move rfl) rfl ?_
          refine op_v (v_move rfl) rfl ?_
          refine op_v (v_move rfl) rfl ?_
          refine op_v (v_indexA Tryz.underlying46 sz48 rfl rfl) rfl ?_
          refine op_v (v_loadI0 ty48 (hat1.mono Imm.leA) rfl rfl rfl) rfl ?_
          refine o_buildSlice (xs := [(Go.Operand.tmp 52)]) Tryz.underlying46 bs48 rfl rfl rfl rfl rfl (fun b53 => ?_)
          refine o_append Tryz.underlying46 bs48 rfl rfl rfl (fun v' => by repeat (first | exact Swap.here | apply Swap.there)) (Src.ofRow (by repeat (first | exact Has.here | apply Has.there)) rfl) (by first | rfl | omega | simp) (by simp [cat, cellsL, Value.oneCell']) (by omega) (by omega) (fun a54 c54 => ?_)
          refine op_v (v_assign rfl) rfl ?_
          refine ops_nil ?_
          refine post_out ?_
          refine post_next ?_
          refine code_region ?_
          refine op_v (v_move rfl) rfl ?_
          refine op_v (v_addb rfl rfl rfl (by omega)) rfl ?_
          refine op_v (v_assign rfl) rfl ?_
          refine ops_nil ?_
          refine PostJ.view (View.drop Del.here) ?_
          refine post_again (a.length - (i + 1)) [(0, .slice aA a.length aC), (1, .slice bA b.length bC), (5, .slice (some ⟨g12, 0, none⟩) b.length b.length), (6, .slice a54 (out.length + 1) c54), (7, .int .i64 (i + 1 : Nat))] (by omega) ⟨i + 1, a54, c54, out ++ [a[i]], xs ++ [.int .i64 a[i].head, .slice (aS i).1 a[i].args.length (aS i).2], us, rfl, hlt, by simp, Imm.leA, by simp [cat, cellsL], (hx.mono Imm.leA).app (RowT.one (hrt1.mono Imm.leA)), hul, by simp; omega, by rw [hrs, hstep]; simp⟩ ⟨rfl, rfl, rfl, rfl, rfl, trivial⟩
        · obtain ⟨j, hj, hatj, huj, hbj⟩ : ∃ (j : Nat) (h : j < b.length), at' = j ∧ us[j]'(by omega) = false ∧ b[j] = a[i] := by
            rcases hat' with ⟨h, _⟩ | h
            · omega
            · exact h
          subst hatj
          have hju : j < us.length := by omega
          have hmem : a[i] ∈ unU b us := (unU_mem hul).2 ⟨j, hj, huj, hbj⟩
          rw [if_pos hmem] at hstep
          have hper := unU_set hul hj huj
          rw [hbj] at hper
          have hper2 : ((unU b us).erase a[i]).Perm (unU b (us.set j true)) := by
            have h3 := hper.erase a[i]
            rwa [List.erase_cons_head] at h3
          rw [rsL_permR _ hper2] at hstep
          refine op_v (v_cmpfA rfl rfl rfl) rfl ?_
          refine ops_nil ?_
          refine post_next ?_
          refine code_cond_f rfl ?_
          refine code_region ?_
          refine op_v (v_move rfl) rfl ?_
          refine op_v (v_move rfl) rfl ?_
          refine op_v (v_index Tryz.underlying136 sz4 rfl rfl hj rfl) rfl ?_
          refine o_storeRow (xs' := (us.set j true).map Value.bool) ty4 rfl rfl rfl rfl rfl rfl (by simp [cellsL, hul]) (Swap.there Swap.here) (by rw [List.map_set, Nat.mul_one]; exact stL_one (x := .bool us[j]) (by rw [List.getElem?_map, List.getElem?_eq_getElem hju]; rfl)) ?_
          refine ops_nil ?_
          refine post_out ?_
          refine post_next ?_
          refine code_region ?_
          refine op_v (v_move rfl) rfl ?_
          refine op_v (v_addb rfl rfl rfl (by omega)) rfl ?_
          refine op_v (v_assign rfl) rfl ?_
          refine ops_nil ?_
          refine post_again (a.length - (i + 1)) [(0, .slice aA a.length aC), (1, .slice bA b.length bC), (5, .slice (some ⟨g12, 0, none⟩) b.length b.length), (6, .slice A out.length cr), (7, .int .i64 (i + 1 : Nat))] (by omega) ⟨i + 1, A, cr, out, xs, us.set j true, rfl, hlt, rfl, Imm.leA, rfl, hx.mono Imm.leA, by simp [hul], by omega, by rw [hrs, hstep]⟩ ⟨rfl, rfl, rfl, rfl, rfl, trivial⟩
    · refine op_v (v_cmpfA rfl rfl rfl) rfl ?_
      refine op_v (v_move rfl) rfl ?_
      refine op_skip rfl rfl (by simp [undef]) rfl ?_
      refine op_skip rfl rfl (by simp [undef]) rfl ?_
      refine op_v (v_pickf rfl rfl) rfl ?_
      refine ops_nil ?_
      refine post_next ?_
      refine code_cond_f rfl ?_
      refine code_exit ?_
      refine post_exit_then ?_
      refine post_exit_then ?_
      refine post_exit ?_
      refine post_next ?_
      refine code_seq ?_
      refine code_region ?_
      refine op_v (v_move rfl) rfl ?_
      by_cases h47 : at' < 0
      · have hno2 : a[i] ∉ unU b us := by
          rcases hat' with ⟨_, h⟩ | ⟨j, hj, h, _⟩
          · intro hm
            obtain ⟨j, hj, h1, h2⟩ := (unU_mem hul).1 hm
            exact h j hj (by omega) h1 h2
          · omega
        rw [if_neg hno2] at hstep
        refine op_v (v_cmptA rfl rfl rfl) rfl ?_
        refine ops_nil ?_
        refine post_next ?_
        refine code_cond_t rfl ?_
        refine code_region ?_
        refine op_v (v_move rfl) rfl ?_
        refine op_v (v_move rfl) rfl ?_
        refine op_v (v_move rfl) rfl ?_
        refine op_v (v_indexA Tryz.underlying46 sz48 rfl rfl) rfl ?_
        refine op_v (v_loadI0 ty48 (hat1.mono Imm.leA) rfl rfl rfl) rfl ?_
        refine o_buildSlice (xs := [(Go.Operand.tmp 52)]) Tryz.underlying46 bs48 rfl rfl rfl rfl rfl (fun b53 => ?_)
        refine o_append Tryz.underlying46 bs48 rfl rfl rfl (fun v' => by repeat (first | exact Swap.here | apply Swap.there)) (Src.ofRow (by repeat (first | exact Has.here | apply Has.there)) rfl) (by first | rfl | omega | simp) (by simp [cat, cellsL, Value.oneCell']) (by omega) (by omega) (fun a54 c54 => ?_)
        refine op_v (v_assign rfl) rfl ?_
        refine ops_nil ?_
        refine post_out ?_
        refine post_next ?_
        refine code_region ?_
        refine op_v (v_move rfl) rfl ?_
        refine op_v (v_addb rfl rfl rfl (by omega)) rfl ?_
        refine op_v (v_assign rfl) rfl ?_
        refine ops_nil ?_
        refine PostJ.view (View.drop Del.here) ?_
        refine post_again (a.length - (i + 1)) [(0, .slice aA a.length aC), (1, .slice bA b.length bC), (5, .slice (some ⟨g12, 0, none⟩) b.length b.length), (6, .slice a54 (out.length + 1) c54), (7, .int .i64 (i + 1 : Nat))] (by omega) ⟨i + 1, a54, c54, out ++ [a[i]], xs ++ [.int .i64 a[i].head, .slice (aS i).1 a[i].args.length (aS i).2], us, rfl, hlt, by simp, Imm.leA, by simp [cat, cellsL], (hx.mono Imm.leA).app (RowT.one (hrt1.mono Imm.leA)), hul, by simp; omega, by rw [hrs, hstep]; simp⟩ ⟨rfl, rfl, rfl, rfl, rfl, trivial⟩
      · obtain ⟨j, hj, hatj, huj, hbj⟩ : ∃ (j : Nat) (h : j < b.length), at' = j ∧ us[j]'(by omega) = false ∧ b[j] = a[i] := by
          rcases hat' with ⟨h, _⟩ | h
          · omega
          · exact h
        subst hatj
        have hju : j < us.length := by omega
        have hmem : a[i] ∈ unU b us := (unU_mem hul).2 ⟨j, hj, huj, hbj⟩
        rw [if_pos hmem] at hstep
        have hper := unU_set hul hj huj
        rw [hbj] at hper
        have hper2 : ((unU b us).erase a[i]).Perm (unU b (us.set j true)) := by
          have h3 := hper.erase a[i]
          rwa [List.erase_cons_head] at h3
        rw [rsL_permR _ hper2] at hstep
        refine op_v (v_cmpfA rfl rfl rfl) rfl ?_
        refine ops_nil ?_
        refine post_next ?_
        refine code_cond_f rfl ?_
        refine code_region ?_
        refine op_v (v_move rfl) rfl ?_
        refine op_v (v_move rfl) rfl ?_
        refine op_v (v_index Tryz.underlying136 sz4 rfl rfl hj rfl) rfl ?_
        refine o_storeRow (xs' := (us.set j true).map Value.bool) ty4 rfl rfl rfl rfl rfl rfl (by simp [cellsL, hul]) (Swap.there Swap.here) (by rw [List.map_set, Nat.mul_one]; exact stL_one (x := .bool us[j]) (by rw [List.getElem?_map, List.getElem?_eq_getElem hju]; rfl)) ?_
        refine ops_nil ?_
        refine post_out ?_
        refine post_next ?_
        refine code_region ?_
        refine op_v (v_move rfl) rfl ?_
        refine op_v (v_addb rfl rfl rfl (by omega)) rfl ?_
        refine op_v (v_assign rfl) rfl ?_
        refine ops_nil ?_
        refine post_again (a.length - (i + 1)) [(0, .slice aA a.length aC), (1, .slice bA b.length bC), (5, .slice (some ⟨g12, 0, none⟩) b.length b.length), (6, .slice A out.length cr), (7, .int .i64 (i + 1 : Nat))] (by omega) ⟨i + 1, A, cr, out, xs, us.set j true, rfl, hlt, rfl, Imm.leA, rfl, hx.mono Imm.leA, by simp [hul], by omega, by rw [hrs, hstep]⟩ ⟨rfl, rfl, rfl, rfl, rfl, trivial⟩
  · have hge : i = a.length := by simp at hc0; omega
    refine code_exit ?_
    refine post_exit_then ?_
    refine post_exit_then ?_
    refine post_exit ?_
    refine post_next ?_
    refine code_seq ?_
    refine code_region ?_
    refine OpsJ.freezeRow Del.here ?_
    rintro I58 a58 c58 hI58 hq hc58 hl58 hcells58
    cases hq
    subst hge
    rw [List.drop_length, rsL, List.append_nil] at hrs
    rw [← hrs] at hx
    have hlo : out.length = (rsL a b).length := by rw [hrs]
    refine op_v (v_move rfl) rfl ?_
    refine op_v (v_assign rfl) rfl ?_
    refine ops_nil ?_
    refine post_next ?_
    refine code_ret ?_
    refine post_ret (rs := [.tmp 4]) rfl (List.Perm.refl _) (.cons (.tmp rfl) .nil) (List.nil_sublist _) ?_
    exact ⟨RowT.repS hlo hcells58 (hx.mono Imm.leA) hc58 (by omega), rfl⟩
end Go.Proofs.YtdbadicpbmndbaaGreat
/- Walks: the document's answers on which row is greater; the statement. -/
set_option linter.unusedVariables false
set_option linter.unusedSimpArgs false
set_option linter.unnecessarySimpa false
/- short -/
namespace Go.Proofs.YtdbadicpbmndbaaGreat
open Go Lg

theorem any_take_succ' {α : Type} (p : α → Bool) (l : List α) {k : Nat} (h : k < l.length) : (l.take (k + 1)).any p = ((l.take k).any p || p l[k]) := by
  rw [List.take_succ_eq_append_getElem h, List.any_append]; simp
theorem Rover_does {I : Imm} {vg va vb : Value} {gs : List Sy} {a b : List T} (hg : RepG I vg gs) (ha : RepS I va a) (hb : RepS I vb b) (hoa : ∀ t ∈ a, OkG gs t) (hob : ∀ t ∈ b, OkG gs t) (hla : a.length ≤ 1000000) (hlb : b.length ≤ 1000000) :
    Does Tryz.prog 142 [vg, va, vb] I [] (fun v _ δ' => v = .bool (overL gs a b) ∧ δ' = []) := by
  obtain ⟨ga, gc, rfl⟩ := hg.shape
  obtain ⟨aA, aC, aS, xa, rfl, hca, hra, hba, hea⟩ := ha.row
  obtain ⟨bA, bC, bS, xb, rfl, hcb, hrb, hbb, heb⟩ := hb.row
  refine Does.intro Tryz.func142 rfl Tryz.ntmps142 rfl fun w0 => ?_
  refine code_seq ?_
  refine code_region ?_
  refine op_v (v_assign rfl) rfl ?_
  refine ops_nil ?_
  refine post_next ?_
  refine code_seq ?_
  refine code_seq ?_
  refine code_region ?_
  refine op_v (v_assign rfl) rfl ?_
  refine ops_nil ?_
  refine post_next ?_
  refine code_block ?_
  refine code_loop (fun m σ' I' δ' => ∃ i : Nat, m = b.length - i ∧ i ≤ b.length ∧ σ' = [(0, .slice ga gs.length gc), (1, .slice aA a.length aC), (2, .slice bA b.length bC), (7, .int .i64 i)] ∧ I.le I' ∧ δ' = [] ∧ ∀ (j : Nat) (h : j < b.length), j < i → a.any (fun t => decide (stT gs t b[j] = 1)) = true) b.length [(0, .slice ga gs.length gc), (1, .slice aA a.length aC), (2, .slice bA b.length bC), (7, .int .i64 (0 : Nat))] ⟨0, rfl, Nat.zero_le _, rfl, Imm.le_refl _, rfl, fun j _ h => by omega⟩ ⟨rfl, rfl, rfl, rfl, trivial⟩ ?_
  rintro m _ I0 _ ⟨i, rfl, hi, rfl, hI0, rfl, hp⟩
  refine code_seq ?_
  refine code_seq ?_
  refine code_region ?_
  refine op_v (v_move rfl) rfl ?_
  refine op_v (v_move rfl) rfl ?_
  refine op_v (v_len Tryz.underlying46 rfl) rfl ?_
  refine op_v (v_cmp rfl rfl rfl) rfl ?_
  refine ops_nil ?_
  refine post_next ?_
  refine code_cond rfl (fun hc0 => ?_) (fun hc0 => ?_)
  · have hlt : i < b.length := by simpa using hc0
    obtain ⟨hat2, hrt2⟩ := heb i hlt
    have hs2 := hat2.isSome
    have hob2 := hob b[i] (List.getElem_mem hlt)
    refine code_skip ?_
    refine post_next ?_
    refine code_seq ?_
    refine code_block ?_
    refine code_seq ?_
    refine code_region ?_
    refine op_v (v_assign rfl) rfl ?_
    refine ops_nil ?_
    refine post_next ?_
    refine code_seq ?_
    refine code_seq ?_
    refine code_region ?_
    refine op_v (v_assign rfl) rfl ?_
    refine ops_nil ?_
    refine post_next ?_
    refine code_block ?_
    refine code_loop (fun m σ' I' δ' => ∃ k : Nat, m = a.length - k ∧ k ≤ a.length ∧ σ' = [(0, .slice ga gs.length gc), (1, .slice aA a.length aC), (2, .slice bA b.length bC), (7, .int .i64 i), (8, .bool ((a.take k).any fun t => decide (stT gs t b[i] = 1))), (9, .int .i64 k)] ∧ I0.le I' ∧ δ' = []) a.length [(0, .slice ga gs.length gc), (1, .slice aA a.length aC), (2, .slice bA b.length bC), (7, .int .i64 i), (8, .bool false), (9, .int .i64 (0 : Nat))] ⟨0, rfl, Nat.zero_le _, rfl, Imm.le_refl _, rfl⟩ ⟨rfl, rfl, rfl, rfl, rfl, rfl, trivial⟩ ?_
    rintro m _ I1 _ ⟨k, rfl, hk, rfl, hI1, rfl⟩
    refine code_seq ?_
    refine code_seq ?_
    refine code_region ?_
    refine op_v (v_move rfl) rfl ?_
    refine op_v (v_move rfl) rfl ?_
    refine op_v (v_len Tryz.underlying46 rfl) rfl ?_
    refine op_v (v_cmp rfl rfl rfl) rfl ?_
    refine ops_nil ?_
    refine post_next ?_
    refine code_cond rfl (fun hc1 => ?_) (fun hc1 => ?_)
    · have hltk : k < a.length := by simpa using hc1
      obtain ⟨hat1, hrt1⟩ := hea k hltk
      have hs1 := hat1.isSome
      have hoa2 := hoa a[k] (List.getElem_mem hltk)
      have hnext := any_take_succ' (fun t => decide (stT gs t b[i] = 1)) a hltk
      refine code_skip ?_
      refine post_next ?_
      refine code_seq ?_
      refine code_block ?_
      refine code_draw (.fl 0 (.fl 1 (.fl 2 (.fl 3 (.fl 4 (.fl 5 (.fl 6 (.fl 7 (.fl 8 (.fl 9 (.fl 10 (.ef 11 (.fl 12 (.ef 13 .done)))))))))))))) (fun _ => _) mixed (by kernel_rfl) (by kernel_rfl) (fun _ => (List.Sublist.refl _)) ?_
      refine e_fl rfl rfl (fun hs_ => PF.mk rfl (v_move rfl) hs_) ?_
      by_cases h23 : ((a.take k).any fun t => decide (stT gs t b[i] = 1)) = true
      · rw [h23] at hnext ⊢
        refine e_fl rfl rfl (fun hs_ => PF.mk rfl (v_move rfl) hs_) ?_
        refine e_fl rfl rfl (fun hs_ => PF.mks rfl (by intro c hc; cases hc) rfl rfl (by simp [undef]) hs_) ?_
        refine e_fl rfl rfl (fun hs_ => PF.mks rfl (by intro c hc; cases hc) rfl rfl (by simp [undef]) hs_) ?_
        refine e_fl rfl rfl (fun hs_ => PF.mks rfl (by intro c hc; cases hc) rfl rfl (by simp [undef]) hs_) ?_
        refine e_fl rfl rfl (fun hs_ => PF.mks rfl (by intro c hc; cases hc) rfl rfl (by simp [undef]) hs_) ?_
        refine e_fl rfl rfl (fun hs_ => PF.mks rfl (by intro c hc; cases hc) rfl rfl (by simp [undef]) hs_) ?_
        refine e_fl rfl rfl (fun hs_ => PF.mks rfl (by intro c hc; cases hc) rfl rfl (by simp [undef]) hs_) ?_
        refine e_fl rfl rfl (fun hs_ => PF.mks rfl (by intro c hc; cases hc) rfl rfl (by simp [undef]) hs_) ?_
        refine e_fl rfl rfl (fun hs_ => PF.mks rfl (by intro c hc; cases hc) rfl rfl (by simp [undef]) hs_) ?_
        refine e_fl rfl rfl (fun hs_ => PF.mks rfl (by intro c hc; cases hc) rfl rfl (by simp [undef]) hs_) ?_
        refine e_eff rfl (by intro cs b hc; cases hc) (by intro c hc; cases hc) ?_
        refine op_skip rfl rfl (by simp [undef]) rfl ?_
        refine ops_nil ?_
        refine e_next rfl side_allA ?_
        refine e_fl rfl rfl (fun hs_ => PF.mk rfl (v_pickt rfl rfl) hs_) ?_
        refine e_eff rfl (by intro cs b hc; cases hc) (by intro c hc; cases hc) ?_
        refine op_v (v_assign rfl) rfl ?_
        refine ops_nil ?_
        refine e_next rfl (side_nil (by kernel_rfl)) ?_
        refine e_done ?_
        refine post_out ?_
        refine post_next ?_
        refine code_region ?_
        refine op_v (v_move rfl) rfl ?_
        refine op_v (v_addb rfl rfl rfl (by omega)) rfl ?_
        refine op_v (v_assign rfl) rfl ?_
        refine ops_nil ?_
        refine post_again (a.length - (k + 1)) [(0, .slice ga gs.length gc), (1, .slice aA a.length aC), (2, .slice bA b.length bC), (7, .int .i64 i), (8, .bool true), (9, .int .i64 (k + 1 : Nat))] (by omega) ⟨k + 1, rfl, hltk, by rw [hnext]; rfl, Imm.leA, rfl⟩ ⟨rfl, rfl, rfl, rfl, rfl, rfl, trivial⟩
      · have h23' : ((a.take k).any fun t => decide (stT gs t b[i] = 1)) = false := by simpa using h23
        rw [h23'] at hnext ⊢
        refine e_fl rfl rfl (fun hs_ => PF.mk rfl (v_move rfl) hs_) ?_
        refine e_fl rfl rfl (fun hs_ => PF.mkg rfl rfl rfl (v_move rfl) hs_) ?_
        refine e_fl rfl rfl (fun hs_ => PF.mkg rfl rfl rfl (v_move rfl) hs_) ?_
        refine e_fl rfl rfl (fun hs_ => PF.mkg rfl rfl rfl (v_move rfl) hs_) ?_
        refine e_fl rfl rfl (fun hs_ => PF.mkg rfl rfl rfl (v_indexA Tryz.underlying46 sz48 rfl rfl) hs_) ?_
        refine e_fl rfl rfl (fun hs_ => PF.mkg rfl rfl rfl (v_loadI0 ty48 (hat1.mono Imm.leA) rfl rfl rfl) hs_) ?_
        refine e_fl rfl rfl (fun hs_ => PF.mkg rfl rfl rfl (v_move rfl) hs_) ?_
        refine e_fl rfl rfl (fun hs_ => PF.mkg rfl rfl rfl (v_move rfl) hs_) ?_
        refine e_fl rfl rfl (fun hs_ => PF.mkg rfl rfl rfl (v_indexA Tryz.underlying46 sz48 rfl rfl) hs_) ?_
        refine e_fl rfl rfl (fun hs_ => PF.mkg rfl rfl rfl (v_loadI0 ty48 (hat2.mono Imm.leA) rfl rfl rfl) hs_) ?_
        refine e_eff rfl (by intro cs b hc; cases hc) (by intro c hc; cases hc) ?_
        refine op_want rfl rfl ?_
        refine op_call pl166 rfl rfl ((Greater_does _ _ _ (Nat.le_refl _) hoa2 hob2 _ _ _ _ (hg.mono Imm.leA) (hrt1.mono Imm.leA) (hrt2.mono Imm.leA))) Parts.none ?_
        rintro _ I33 _ hI33 ⟨rfl, rfl⟩
        refine ops_nil ?_
        refine e_next rfl side_allA ?_
        refine e_fl rfl rfl (fun hs_ => PF.mk rfl (v_pickf rfl rfl) hs_) ?_
        refine e_eff rfl (by intro cs b hc; cases hc) (by intro c hc; cases hc) ?_
        refine op_v (v_assign rfl) rfl ?_
        refine ops_nil ?_
        refine e_next rfl (side_nil (by kernel_rfl)) ?_
        refine e_done ?_
        refine post_out ?_
        refine post_next ?_
        refine code_region ?_
        refine op_v (v_move rfl) rfl ?_
        refine op_v (v_addb rfl rfl rfl (by omega)) rfl ?_
        refine op_v (v_assign rfl) rfl ?_
        refine ops_nil ?_
        refine post_again (a.length - (k + 1)) [(0, .slice ga gs.length gc), (1, .slice aA a.length aC), (2, .slice bA b.length bC), (7, .int .i64 i), (8, .bool (decide (stT gs a[k] b[i] = 1))), (9, .int .i64 (k + 1 : Nat))] (by omega) ⟨k + 1, rfl, hltk, by rw [hnext]; rfl, Imm.leA, rfl⟩ ⟨rfl, rfl, rfl, rfl, rfl, rfl, trivial⟩
    · have hgek : k = a.length := by simp at hc1; omega
      subst hgek
      rw [List.take_length]
      refine code_exit ?_
      refine post_exit_then ?_
      refine post_exit_then ?_
      refine post_exit ?_
      refine post_next ?_
      refine code_seq ?_
      refine code_region ?_
      refine op_v (v_move rfl) rfl ?_
      by_cases h36 : (a.any fun t => decide (stT gs t b[i] = 1)) = true
      · rw [h36]
        refine op_v (v_not rfl) rfl ?_
        refine ops_nil ?_
        refine post_next ?_
        refine code_cond_f rfl ?_
        refine code_skip ?_
        refine post_out ?_
        refine post_next ?_
        refine code_region ?_
        refine op_v (v_move rfl) rfl ?_
        refine op_v (v_addb rfl rfl rfl (by omega)) rfl ?_
        refine op_v (v_assign rfl) rfl ?_
        refine ops_nil ?_
        refine post_again (b.length - (i + 1)) [(0, .slice ga gs.length gc), (1, .slice aA a.length aC), (2, .slice bA b.length bC), (7, .int .i64 (i + 1 : Nat))] (by omega) ⟨i + 1, rfl, hlt, rfl, Imm.leA, rfl, fun j hj hji => ?_⟩ ⟨rfl, rfl, rfl, rfl, trivial⟩
        rcases Nat.lt_or_ge j i with hq | hq
        · exact hp j hj hq
        have hq2 : j = i := by omega
        subst hq2
        exact h36
      · have h36' : (a.any fun t => decide (stT gs t b[i] = 1)) = false := by simpa using h36
        rw [h36']
        refine op_v (v_not rfl) rfl ?_
        refine ops_nil ?_
        refine post_next ?_
        refine code_cond_t rfl ?_
        refine code_seq ?_
        refine code_region ?_
        refine op_v (v_assign rfl) rfl ?_
        refine ops_nil ?_
        refine post_next ?_
        refine code_ret ?_
        refine post_ret_block ?_
        refine post_ret_then ?_
        refine post_ret_then ?_
        refine post_ret_block ?_
        refine post_ret_then ?_
        refine post_ret (rs := [.tmp 6]) rfl (List.Perm.refl _) (.cons (.tmp rfl) .nil) (List.nil_sublist _) ?_
        have hov : overL gs a b = false := by
          cases hq : overL gs a b with
          | false => rfl
          | true =>
            unfold overL at hq
            rw [Bool.and_eq_true, List.all_eq_true] at hq
            exact absurd (hq.2 b[i] (List.getElem_mem hlt)) h36
        exact ⟨by rw [hov]; rfl, rfl⟩
  · have hge : i = b.length := by simp at hc0; omega
    refine code_exit ?_
    refine post_exit_then ?_
    refine post_exit_then ?_
    refine post_exit ?_
    refine post_next ?_
    refine code_seq ?_
    refine code_region ?_
    refine op_v (v_move rfl) rfl ?_
    refine op_v (v_len Tryz.underlying46 rfl) rfl ?_
    refine op_v (v_cmp rfl rfl rfl) rfl ?_
    refine op_v (v_assign rfl) rfl ?_
    refine ops_nil ?_
    refine post_next ?_
    refine code_ret ?_
    refine post_ret (rs := [.tmp 6]) rfl (List.Perm.refl _) (.cons (.tmp rfl) .nil) (List.nil_sublist _) ?_
    have hall : (b.all fun u => a.any fun t => decide (stT gs t u = 1)) = true := List.all_eq_true.2 fun u hu => by obtain ⟨j, hj, rfl⟩ := List.getElem_of_mem hu; exact hp j hj (by omega)
    exact ⟨bool_b (by unfold overL; rw [hall, Bool.and_true]; simp), rfl⟩
theorem Rows_does {I : Imm} {vg va vb : Value} {gs : List Sy} {a b : List T} (hg : RepG I vg gs) (ha : RepS I va a) (hb : RepS I vb b) (hoa : ∀ t ∈ a, OkG gs t) (hob : ∀ t ∈ b, OkG gs t) (hla : a.length ≤ 1000000) (hlb : b.length ≤ 1000000) :
    Does Tryz.prog 117 [vg, va, vb] I [] (fun v _ δ' => v = .int .i64 (mulG gs a b) ∧ δ' = []) := by
  obtain ⟨aa, ac, rfl⟩ := ha.shape
  obtain ⟨ba, bc, rfl⟩ := hb.shape
  have hl1 := rsL_len a b
  have hl2 := rsL_len b a
  have hsa : ∀ t ∈ a, t.size ≤ 1000000000 := fun t ht => by have := chkT_size (hoa t ht).chk; omega
  have hsb : ∀ t ∈ b, t.size ≤ 1000000000 := fun t ht => by have := chkT_size (hob t ht).chk; omega
  refine Does.intro Tryz.func117 rfl Tryz.ntmps117 rfl fun w0 => ?_
  refine code_seq ?_
  refine code_region ?_
  refine op_v (v_assign rfl) rfl ?_
  refine ops_nil ?_
  refine post_next ?_
  refine code_seq ?_
  refine code_region ?_
  refine op_v (v_move rfl) rfl ?_
  refine op_v (v_move rfl) rfl ?_
  refine op_call pl141 rfl rfl ((without_does (ha.mono Imm.leA) (hb.mono Imm.leA) hsa hsb hla hlb)) Parts.none ?_
  rintro v11 I11 _ hI11 ⟨hv11, rfl⟩
  obtain ⟨xa, xc, rfl⟩ := hv11.shape
  refine op_v (v_assign rfl) rfl ?_
  refine ops_nil ?_
  refine post_next ?_
  refine code_seq ?_
  refine code_region ?_
  refine op_v (v_move rfl) rfl ?_
  refine op_v (v_move rfl) rfl ?_
  refine op_call pl141 rfl rfl ((without_does (hb.mono Imm.leA) (ha.mono Imm.leA) hsb hsa hlb hla)) Parts.none ?_
  rintro v14 I14 _ hI14 ⟨hv14, rfl⟩
  obtain ⟨ya, yc, rfl⟩ := hv14.shape
  refine op_v (v_assign rfl) rfl ?_
  refine ops_nil ?_
  refine post_next ?_
  refine code_seq ?_
  refine code_seq ?_
  refine code_region ?_
  refine op_v (v_move rfl) rfl ?_
  refine op_v (v_len Tryz.underlying46 rfl) rfl ?_
  refine op_v (v_move rfl) rfl ?_
  refine op_v (v_len Tryz.underlying46 rfl) rfl ?_
  refine op_v (v_addb rfl rfl rfl (by omega)) rfl ?_
  by_cases h20 : (rsL a b).length + (rsL b a).length = 0
  · refine op_v (v_cmptA rfl rfl rfl) rfl ?_
    refine ops_nil ?_
    refine post_next ?_
    refine code_cond_t rfl ?_
    refine code_seq ?_
    refine code_region ?_
    refine op_v (v_assign rfl) rfl ?_
    refine ops_nil ?_
    refine post_next ?_
    refine code_ret ?_
    refine post_ret_then ?_
    refine post_ret (rs := [.tmp 6]) rfl (List.Perm.refl _) (.cons (.tmp rfl) .nil) (List.nil_sublist _) ?_
    exact ⟨by simp only [outV, mulG]; rw [if_pos h20], rfl⟩
  · refine op_v (v_cmpfA rfl rfl rfl) rfl ?_
    refine ops_nil ?_
    refine post_next ?_
    refine code_cond_f rfl ?_
    refine code_skip ?_
    refine post_next ?_
    refine code_seq ?_
    refine code_seq ?_
    refine code_region ?_
    refine op_v (v_move rfl) rfl ?_
    refine op_v (v_move rfl) rfl ?_
    refine op_v (v_move rfl) rfl ?_
    refine op_call pl142 rfl rfl ((Rover_does (hg.mono Imm.leA) (hv11.mono Imm.leA) (hv14.mono Imm.leA) (fun t ht => hoa t (rsL_mem ht)) (fun t ht => hob t (rsL_mem ht)) (by omega) (by omega))) Parts.none ?_
    rintro v24 I24 _ hI24 ⟨rfl, rfl⟩
    refine ops_nil ?_
    refine post_next ?_
    refine code_cond rfl (fun hc1 => ?_) (fun hc1 => ?_)
    · have h24 : overL gs (rsL a b) (rsL b a) = true := hc1
      refine code_seq ?_
      refine code_region ?_
      refine op_v (v_assign rfl) rfl ?_
      refine ops_nil ?_
      refine post_next ?_
      refine code_ret ?_
      refine post_ret_then ?_
      refine post_ret (rs := [.tmp 6]) rfl (List.Perm.refl _) (.cons (.tmp rfl) .nil) (List.nil_sublist _) ?_
      exact ⟨by simp only [outV, mulG]; rw [if_neg h20, if_pos h24], rfl⟩
    · have h24 : ¬ overL gs (rsL a b) (rsL b a) = true := by rw [hc1]; simp
      refine code_skip ?_
      refine post_next ?_
      refine code_seq ?_
      refine code_seq ?_
      refine code_region ?_
      refine op_v (v_move rfl) rfl ?_
      refine op_v (v_move rfl) rfl ?_
      refine op_v (v_move rfl) rfl ?_
      refine op_call pl142 rfl rfl ((Rover_does (hg.mono Imm.leA) (hv14.mono Imm.leA) (hv11.mono Imm.leA) (fun t ht => hob t (rsL_mem ht)) (fun t ht => hoa t (rsL_mem ht)) (by omega) (by omega))) Parts.none ?_
      rintro v28 I28 _ hI28 ⟨rfl, rfl⟩
      refine ops_nil ?_
      refine post_next ?_
      refine code_cond rfl (fun hc2 => ?_) (fun hc2 => ?_)
      · have h28 : overL gs (rsL b a) (rsL a b) = true := hc2
        refine code_seq ?_
        refine code_region ?_
        refine op_v (v_assign rfl) rfl ?_
        refine ops_nil ?_
        refine post_next ?_
        refine code_ret ?_
        refine post_ret_then ?_
        refine post_ret (rs := [.tmp 6]) rfl (List.Perm.refl _) (.cons (.tmp rfl) .nil) (List.nil_sublist _) ?_
        exact ⟨by simp only [outV, mulG]; rw [if_neg h20, if_neg h24, if_pos h28], rfl⟩
      · have h28 : ¬ overL gs (rsL b a) (rsL a b) = true := by rw [hc2]; simp
        refine code_skip ?_
        refine post_next ?_
        refine code_seq ?_
        refine code_region ?_
        refine op_v (v_assign rfl) rfl ?_
        refine ops_nil ?_
        refine post_next ?_
        refine code_ret ?_
        refine post_ret (rs := [.tmp 6]) rfl (List.Perm.refl _) (.cons (.tmp rfl) .nil) (List.nil_sublist _) ?_
        exact ⟨by simp only [outV, mulG]; rw [if_neg h20, if_neg h24, if_neg h28], rfl⟩
end Go.Proofs.YtdbadicpbmndbaaGreat
/- Walks: the document's answer on whether a literal is right. -/
set_option linter.unusedVariables false
set_option linter.unusedSimpArgs false
set_option linter.unnecessarySimpa false
/- short -/
namespace Go.Proofs.YtdbadicpbmndbaaGreat
open Go Lg

theorem tru_eq {gs : List Sy} {t : T} (h : OkG gs t) : truG gs t = trL gs t := by
  have q := h.heads (true, t) (by rw [visT_eq]; exact List.mem_cons_self ..)
  simp only at q
  unfold truG trL
  by_cases h0 : 0 ≤ t.head
  · have : t.head < (gs.length : Int) := by omega
    simp [this]
  · simp [h0]
theorem RLCheck_does {I : Imm} {vg va : Value} {gs : List Sy} {x : Li} (hg : RepG I vg gs) (ha : RepL I va x) (h1 : x.l.size ≤ 1000000000) (h2 : x.r.size ≤ 1000000000) :
    Does Tryz.prog 71 [vg, va] I [] (fun v _ δ' => v = .int .i64 (litG gs x) ∧ δ' = []) := by
  obtain ⟨la, lc, ra, rc, rfl, hl, hr⟩ := ha
  obtain ⟨ga, gc, rfl⟩ := hg.shape
  refine Does.intro Tryz.func71 rfl Tryz.ntmps71 rfl fun w0 => ?_
  refine code_seq ?_
  refine code_region ?_
  refine o_box rfl rfl rfl (fun b3 => ?_)
  refine op_v (v_assign rfl) rfl ?_
  refine ops_nil ?_
  refine post_next ?_
  refine code_seq ?_
  refine code_region ?_
  refine op_v (v_move rfl) rfl ?_
  refine op_v (v_fieldB 1 Tryz.underlying59 rfl rfl fz48 rfl) rfl ?_
  refine op_v (v_loadA ty48 rfl rfl) rfl ?_
  refine op_call pl115 rfl rfl ((RTerm_does (hg.mono Imm.leA) (hl.mono Imm.leA) h1)) Parts.none ?_
  rintro _ I11 _ hI11 ⟨rfl, rfl⟩
  refine op_v (v_assign rfl) rfl ?_
  refine ops_nil ?_
  refine post_next ?_
  refine code_seq ?_
  refine code_seq ?_
  refine code_region ?_
  refine op_v (v_move rfl) rfl ?_
  by_cases e1 : termG gs x.l ≠ 0
  · refine op_v (v_cmptA rfl rfl rfl) rfl ?_
    refine ops_nil ?_
    refine post_next ?_
    refine code_cond_t rfl ?_
    refine code_seq ?_
    refine code_region ?_
    refine op_v (v_move rfl) rfl ?_
    refine op_v (v_assign rfl) rfl ?_
    refine ops_nil ?_
    refine post_next ?_
    refine code_ret ?_
    refine post_ret_then ?_
    refine post_ret (rs := [.tmp 4]) rfl (List.Perm.refl _) (.cons (.tmp rfl) .nil) (List.nil_sublist _) ?_
    exact ⟨by unfold litG; rw [if_pos e1]; rfl, rfl⟩
  · refine op_v (v_cmpfA rfl rfl rfl) rfl ?_
    refine ops_nil ?_
    refine post_next ?_
    refine code_cond_f rfl ?_
    refine code_skip ?_
    refine post_next ?_
    refine code_seq ?_
    refine code_region ?_
    refine op_v (v_move rfl) rfl ?_
    refine op_v (v_fieldB 3 Tryz.underlying59 rfl rfl fz48 rfl) rfl ?_
    refine op_v (v_loadA ty48 rfl rfl) rfl ?_
    refine op_call pl115 rfl rfl ((RTerm_does (hg.mono Imm.leA) (hr.mono Imm.leA) h2)) Parts.none ?_
    rintro _ I18 _ hI18 ⟨rfl, rfl⟩
    refine op_v (v_assign rfl) rfl ?_
    refine ops_nil ?_
    refine post_next ?_
    refine code_seq ?_
    refine code_seq ?_
    refine code_region ?_
    refine op_v (v_move rfl) rfl ?_
    by_cases e2 : termG gs x.r ≠ 0
    · refine op_v (v_cmptA rfl rfl rfl) rfl ?_
      refine ops_nil ?_
      refine post_next ?_
      refine code_cond_t rfl ?_
      refine code_seq ?_
      refine code_region ?_
      refine op_v (v_move rfl) rfl ?_
      refine op_v (v_assign rfl) rfl ?_
      refine ops_nil ?_
      refine post_next ?_
      refine code_ret ?_
      refine post_ret_then ?_
      refine post_ret (rs := [.tmp 4]) rfl (List.Perm.refl _) (.cons (.tmp rfl) .nil) (List.nil_sublist _) ?_
      exact ⟨by unfold litG; rw [if_neg e1, if_pos e2]; rfl, rfl⟩
    · have o1 := termG_ok.1 (show termG gs x.l = 0 by omega)
      have o2 := termG_ok.1 (show termG gs x.r = 0 by omega)
      refine op_v (v_cmpfA rfl rfl rfl) rfl ?_
      refine ops_nil ?_
      refine post_next ?_
      refine code_cond_f rfl ?_
      refine code_skip ?_
      refine post_next ?_
      refine code_seq ?_
      refine code_region ?_
      refine op_v (v_move rfl) rfl ?_
      refine op_v (v_fieldB 1 Tryz.underlying59 rfl rfl fz48 rfl) rfl ?_
      refine op_v (v_loadA ty48 rfl rfl) rfl ?_
      refine op_call pl116 rfl rfl ((Truth_does (hg.mono Imm.leA) (hl.mono Imm.leA))) Parts.none ?_
      rintro _ I25 _ hI25 ⟨rfl, rfl⟩
      rw [tru_eq o1]
      refine op_v (v_assign rfl) rfl ?_
      refine ops_nil ?_
      refine post_next ?_
      refine code_seq ?_
      refine code_seq ?_
      refine code_region ?_
      by_cases e3 : trL gs x.l = true
      · rw [e3]
        refine op_v (v_move rfl) rfl ?_
        refine op_v (v_move rfl) rfl ?_
        first
          | (refine op_want rfl rfl ?_
             refine op_v (v_fieldB 3 Tryz.underlying59 rfl rfl fz48 rfl) rfl ?_)
          | (refine op_skip rfl rfl (by simp [undef]) rfl ?_)
        first
          | (refine op_want rfl rfl ?_
             refine op_v (v_fieldB 0 Tryz.underlying48 rfl rfl fz3 rfl) rfl ?_)
          | (refine op_skip rfl rfl (by simp [undef]) rfl ?_)
        refine op_want rfl rfl ?_
        refine op_v (v_loadA ty3 rfl rfl) rfl ?_
        by_cases e4 : x.r.head ≠ 0
        · first
            | (refine op_want rfl rfl ?_
               refine op_v (v_cmptA rfl rfl rfl) rfl ?_)
            | (refine op_skip rfl rfl (by simp [undef]) rfl ?_)
          refine op_v (v_pickt rfl rfl) rfl ?_
          refine op_v (v_move rfl) rfl ?_
          refine op_skip rfl rfl (by simp [undef]) rfl ?_
          refine op_skip rfl rfl (by simp [undef]) rfl ?_
          refine op_skip rfl rfl (by simp [undef]) rfl ?_
          refine op_skip rfl rfl (by simp [undef]) rfl ?_
          refine op_skip rfl rfl (by simp [undef]) rfl ?_
          refine op_skip rfl rfl (by simp [undef]) rfl ?_
          refine op_skip rfl rfl (by simp [undef]) rfl ?_
          refine op_skip rfl rfl (by simp [undef]) rfl ?_
          refine op_v (v_pickt rfl rfl) rfl ?_
          refine ops_nil ?_
          refine post_next ?_
          refine code_cond_t rfl ?_
          refine code_seq ?_
          refine code_region ?_
          refine op_v (v_assign rfl) rfl ?_
          refine ops_nil ?_
          refine post_next ?_
          refine code_ret ?_
          refine post_ret_then ?_
          refine post_ret (rs := [.tmp 4]) rfl (List.Perm.refl _) (.cons (.tmp rfl) .nil) (List.nil_sublist _) ?_
          exact ⟨by unfold litG; rw [if_neg e1, if_neg e2, if_pos (by simp [sortL, e3, e4])]; rfl, rfl⟩
        · first
            | (refine op_want rfl rfl ?_
               refine op_v (v_cmpfA rfl rfl rfl) rfl ?_)
            | (refine op_skip rfl rfl (by simp [undef]) rfl ?_)
          refine op_v (v_pickt rfl rfl) rfl ?_
          refine op_v (v_move rfl) rfl ?_
          refine op_want rfl rfl ?_
          refine op_v (v_move rfl) rfl ?_
          refine op_want rfl rfl ?_
          refine op_v (v_not rfl) rfl ?_
          refine op_want rfl rfl ?_
          refine op_v (v_move rfl) rfl ?_
          refine op_skip rfl rfl (by simp [undef]) rfl ?_
          refine op_skip rfl rfl (by simp [undef]) rfl ?_
          refine op_skip rfl rfl (by simp [undef]) rfl ?_
          refine op_skip rfl rfl (by simp [undef]) rfl ?_
          first
            | (refine op_want rfl rfl ?_
               refine op_v (v_pickf rfl rfl) rfl ?_)
            | (refine op_skip rfl rfl (by simp [undef]) rfl ?_)
          refine op_v (v_pickf rfl rfl) rfl ?_
          refine ops_nil ?_
          refine post_next ?_
          refine code_cond_f rfl ?_
          refine code_skip ?_
          refine post_next ?_
          refine code_seq ?_
          refine code_region ?_
          refine op_v (v_assign rfl) rfl ?_
          refine ops_nil ?_
          refine post_next ?_
          refine code_ret ?_
          refine post_ret (rs := [.tmp 4]) rfl (List.Perm.refl _) (.cons (.tmp rfl) .nil) (List.nil_sublist _) ?_
          exact ⟨by unfold litG; rw [if_neg e1, if_neg e2, if_neg (by simp [sortL, e3]; omega)]; rfl, rfl⟩
      · have e3' : trL gs x.l = false := by simpa using e3
        rw [e3']
        refine op_v (v_move rfl) rfl ?_
        refine op_v (v_move rfl) rfl ?_
        refine op_skip rfl rfl (by simp [undef]) rfl ?_
        refine op_skip rfl rfl (by simp [undef]) rfl ?_
        refine op_skip rfl rfl (by simp [undef]) rfl ?_
        refine op_skip rfl rfl (by simp [undef]) rfl ?_
        refine op_v (v_pickf rfl rfl) rfl ?_
        refine op_v (v_move rfl) rfl ?_
        refine op_want rfl rfl ?_
        refine op_v (v_move rfl) rfl ?_
        refine op_want rfl rfl ?_
        refine op_v (v_not rfl) rfl ?_
        refine op_want rfl rfl ?_
        refine op_v (v_move rfl) rfl ?_
        refine op_want rfl rfl ?_
        refine op_v (v_move rfl) rfl ?_
        first
          | (refine op_want rfl rfl ?_
             refine op_v (v_fieldB 3 Tryz.underlying59 rfl rfl fz48 rfl) rfl ?_)
          | (refine op_skip rfl rfl (by simp [undef]) rfl ?_)
        refine op_want rfl rfl ?_
        refine op_v (v_loadA ty48 rfl rfl) rfl ?_
        refine op_want rfl rfl ?_
        refine op_call pl116 rfl rfl ((Truth_does (hg.mono Imm.leA) (hr.mono Imm.leA))) Parts.none ?_
        rintro _ I40 _ hI40 ⟨rfl, rfl⟩
        rw [tru_eq o2]
        by_cases e5 : trL gs x.r = true
        · rw [e5]
          first
            | (refine op_want rfl rfl ?_
               refine op_v (v_pickt rfl rfl) rfl ?_)
            | (refine op_skip rfl rfl (by simp [undef]) rfl ?_)
          refine op_v (v_pickf rfl rfl) rfl ?_
          refine ops_nil ?_
          refine post_next ?_
          refine code_cond_t rfl ?_
          refine code_seq ?_
          refine code_region ?_
          refine op_v (v_assign rfl) rfl ?_
          refine ops_nil ?_
          refine post_next ?_
          refine code_ret ?_
          refine post_ret_then ?_
          refine post_ret (rs := [.tmp 4]) rfl (List.Perm.refl _) (.cons (.tmp rfl) .nil) (List.nil_sublist _) ?_
          exact ⟨by unfold litG; rw [if_neg e1, if_neg e2, if_pos (by simp [sortL, e3', e5])]; rfl, rfl⟩
        · have e5' : trL gs x.r = false := by simpa using e5
          rw [e5']
          first
            | (refine op_want rfl rfl ?_
               refine op_v (v_pickt rfl rfl) rfl ?_)
            | (refine op_skip rfl rfl (by simp [undef]) rfl ?_)
          refine op_v (v_pickf rfl rfl) rfl ?_
          refine ops_nil ?_
          refine post_next ?_
          refine code_cond_f rfl ?_
          refine code_skip ?_
          refine post_next ?_
          refine code_seq ?_
          refine code_region ?_
          refine op_v (v_assign rfl) rfl ?_
          refine ops_nil ?_
          refine post_next ?_
          refine code_ret ?_
          refine post_ret (rs := [.tmp 4]) rfl (List.Perm.refl _) (.cons (.tmp rfl) .nil) (List.nil_sublist _) ?_
          exact ⟨by unfold litG; rw [if_neg e1, if_neg e2, if_neg (by simp [sortL, e3', e5'])]; rfl, rfl⟩
end Go.Proofs.YtdbadicpbmndbaaGreat
/- Walks: the document's answers on literals; the statement on how two stand. -/
set_option linter.unusedVariables false
set_option linter.unusedSimpArgs false
set_option linter.unnecessarySimpa false
/- short -/
namespace Go.Proofs.YtdbadicpbmndbaaGreat
open Go Lg

theorem Rrow_does {I : Imm} {va : Value} {x : Li} (ha : RepL I va x) :
    Does Tryz.prog 118 [va] I [] (fun v I' δ' => RepS I' v (rowL x) ∧ δ' = []) := by
  obtain ⟨la, lc, ra, rc, rfl, hl, hr⟩ := ha
  refine Does.intro Tryz.func118 rfl Tryz.ntmps118 rfl fun w0 => ?_
  refine code_seq ?_
  refine code_region ?_
  refine o_box rfl rfl rfl (fun b1 => ?_)
  refine op_v (v_assign rfl) rfl ?_
  refine ops_nil ?_
  refine post_next ?_
  refine code_seq ?_
  refine code_seq ?_
  refine code_region ?_
  refine op_v (v_fieldB 0 Tryz.underlying59 rfl rfl fz4 rfl) rfl ?_
  refine op_v (v_loadA ty4 rfl rfl) rfl ?_
  refine ops_nil ?_
  refine post_next ?_
  refine code_cond rfl (fun hc0 => ?_) (fun hc0 => ?_)
  · have hn : x.neg = true := hc0
    refine code_seq ?_
    refine code_region ?_
    refine op_v (v_fieldB 1 Tryz.underlying59 rfl rfl fz48 rfl) rfl ?_
    refine op_v (v_loadA ty48 rfl rfl) rfl ?_
    refine op_v (v_fieldB 1 Tryz.underlying59 rfl rfl fz48 rfl) rfl ?_
    refine op_v (v_loadA ty48 rfl rfl) rfl ?_
    refine op_v (v_fieldB 3 Tryz.underlying59 rfl rfl fz48 rfl) rfl ?_
    refine op_v (v_loadA ty48 rfl rfl) rfl ?_
    refine op_v (v_fieldB 3 Tryz.underlying59 rfl rfl fz48 rfl) rfl ?_
    refine op_v (v_loadA ty48 rfl rfl) rfl ?_
    refine o_buildSlice (xs := [(Go.Operand.tmp 6), (Go.Operand.tmp 8), (Go.Operand.tmp 10), (Go.Operand.tmp 12)]) Tryz.underlying46 bs48 rfl rfl rfl rfl rfl (fun b13 => ?_)
    refine OpsJ.freezeRow Del.here ?_
    rintro I13 a13 c13 hI13 hq hc13 hl13 hcells13
    cases hq
    refine op_v (v_assign rfl) rfl ?_
    refine ops_nil ?_
    refine post_next ?_
    refine code_ret ?_
    refine post_ret_then ?_
    refine post_ret (rs := [.tmp 2]) rfl (List.Perm.refl _) (.cons (.tmp rfl) .nil) (List.nil_sublist _) ?_
    exact ⟨by unfold rowL; rw [if_pos hn]; exact RowT.repS (ts := [x.l, x.l, x.r, x.r]) rfl hcells13 ((RowT.one (hl.mono Imm.leA)).app ((RowT.one (hl.mono Imm.leA)).app ((RowT.one (hr.mono Imm.leA)).app (RowT.one (hr.mono Imm.leA))))) hc13 (by omega), rfl⟩
  · have hn : ¬ x.neg = true := by rw [hc0]; simp
    refine code_skip ?_
    refine post_next ?_
    refine code_seq ?_
    refine code_region ?_
    refine op_v (v_fieldB 1 Tryz.underlying59 rfl rfl fz48 rfl) rfl ?_
    refine op_v (v_loadA ty48 rfl rfl) rfl ?_
    refine op_v (v_fieldB 3 Tryz.underlying59 rfl rfl fz48 rfl) rfl ?_
    refine op_v (v_loadA ty48 rfl rfl) rfl ?_
    refine o_buildSlice (xs := [(Go.Operand.tmp 15), (Go.Operand.tmp 17)]) Tryz.underlying46 bs48 rfl rfl rfl rfl rfl (fun b18 => ?_)
    refine OpsJ.freezeRow Del.here ?_
    rintro I18 a18 c18 hI18 hq hc18 hl18 hcells18
    cases hq
    refine op_v (v_assign rfl) rfl ?_
    refine ops_nil ?_
    refine post_next ?_
    refine code_ret ?_
    refine post_ret (rs := [.tmp 2]) rfl (List.Perm.refl _) (.cons (.tmp rfl) .nil) (List.nil_sublist _) ?_
    exact ⟨by unfold rowL; rw [if_neg hn]; exact RowT.repS (ts := [x.l, x.r]) rfl hcells18 ((RowT.one (hl.mono Imm.leA)).app (RowT.one (hr.mono Imm.leA))) hc18 (by omega), rfl⟩
theorem RLStand_does {I : Imm} {vg va vb : Value} {gs : List Sy} {x y : Li} (hg : RepG I vg gs) (ha : RepL I va x) (hb : RepL I vb y) (hX : ∀ t ∈ rowL x, OkG gs t) (hY : ∀ t ∈ rowL y, OkG gs t) :
    Does Tryz.prog 72 [vg, va, vb] I [] (fun v _ δ' => v = .int .i64 (mulG gs (rowL x) (rowL y)) ∧ δ' = []) := by
  have ha0 := ha
  have hb0 := hb
  obtain ⟨la, lc, ra, rc, rfl, hl, hr⟩ := ha
  obtain ⟨ma, mc, na, nc, rfl, kl, kr⟩ := hb
  have hx1 := rowL_len x
  have hy1 := rowL_len y
  refine Does.intro Tryz.func72 rfl Tryz.ntmps72 rfl fun w0 => ?_
  refine code_seq ?_
  refine code_region ?_
  refine o_box rfl rfl rfl (fun b4 => ?_)
  refine o_box rfl rfl rfl (fun b5 => ?_)
  refine op_v (v_assign rfl) rfl ?_
  refine ops_nil ?_
  refine post_next ?_
  refine code_seq ?_
  refine code_draw (.fl 0 (.fl 1 (.fl 3 (.ef 2 (.ef 4 (.ef 5 (.ef 6 .done))))))) (fun _ => _) mixed (by kernel_rfl) (by kernel_rfl) (fun _ => (List.Sublist.refl _)) ?_
  refine e_fl rfl rfl (fun hs_ => PF.mk rfl (v_move rfl) hs_) ?_
  refine e_fl rfl rfl (fun hs_ => PF.mk rfl (v_loadA ty59 rfl rfl) hs_) ?_
  refine e_fl rfl rfl (fun hs_ => PF.mk rfl (v_loadA ty59 rfl rfl) hs_) ?_
  refine e_eff rfl (by intro cs b hc; cases hc) (by intro c hc; cases hc) ?_
  refine op_call pl118 rfl rfl ((Rrow_does (ha0.mono Imm.leA))) Parts.none ?_
  rintro v9 I9 _ hI9 ⟨hv9, rfl⟩
  refine ops_nil ?_
  refine e_next rfl side_allA ?_
  refine e_eff rfl (by intro cs b hc; cases hc) (by intro c hc; cases hc) ?_
  refine op_call pl118 rfl rfl ((Rrow_does (hb0.mono Imm.leA))) Parts.none ?_
  rintro v11 I11 _ hI11 ⟨hv11, rfl⟩
  refine ops_nil ?_
  refine e_next rfl side_allA ?_
  refine e_eff rfl (by intro cs b hc; cases hc) (by intro c hc; cases hc) ?_
  refine op_call pl117 rfl rfl ((Rows_does (hg.mono Imm.leA) (hv9.mono Imm.leA) (hv11.mono Imm.leA) hX hY (by omega) (by omega))) Parts.none ?_
  rintro _ I12 _ hI12 ⟨rfl, rfl⟩
  refine ops_nil ?_
  refine e_next rfl (side_nil (by kernel_rfl)) ?_
  refine e_eff rfl (by intro cs b hc; cases hc) (by intro c hc; cases hc) ?_
  refine op_v (v_assign rfl) rfl ?_
  refine ops_nil ?_
  refine e_next rfl (side_nil (by kernel_rfl)) ?_
  refine e_done ?_
  refine post_next ?_
  refine code_ret ?_
  refine post_ret (rs := [.tmp 6]) rfl (List.Perm.refl _) (.cons (.tmp rfl) .nil) (List.nil_sublist _) ?_
  exact ⟨rfl, rfl⟩
end Go.Proofs.YtdbadicpbmndbaaGreat
