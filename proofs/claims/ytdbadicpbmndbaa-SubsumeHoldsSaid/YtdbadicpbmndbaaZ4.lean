/- Own texts, one behind the other: rules of a small program logic, walks through the program's functions, plain facts. No condition. -/
import Derived.Test.YtdbadicpbmndbaaZ3
/- Walks: the document's answers on terms of a signature. -/
set_option linter.unusedVariables false
set_option linter.unusedSimpArgs false
set_option linter.unnecessarySimpa false
/- short -/
namespace Go.Proofs.Ytdbadicpbmndbaa
open Go Lg

/-! ### plain -/
theorem any_partsL (d : Nat) : ∀ ts : List T, (partsL d ts).any badN = ts.any fun t => (partsT 1 t).any badN
  | [] => rfl
  | t :: r => by rw [partsL, List.any_append, List.any_cons, any_partsL d r, any_T d 1 t]
theorem any_visL (p : Bool × T → Bool) : ∀ ts : List T, (visL ts).any p = ts.any fun t => (visT false t).any p
  | [] => rfl
  | t :: r => by rw [visL, List.any_append, List.any_cons, any_visL p r]
theorem unk_vis (gs : List Sy) (b : Bool) (t : T) : (visT b t).any (unkB gs) = unkG gs t := by
  unfold unkG; rw [visT_eq, visT_eq]; rfl
theorem unkG_eq (gs : List Sy) (t : T) : unkG gs t = (unkB gs (true, t) || t.args.any (unkG gs)) := by
  unfold unkG
  rw [visT_eq, List.any_cons, any_visL]
  congr 2
  funext u
  exact unk_vis gs false u
theorem mixG_eq (gs : List Sy) (t : T) : mixG gs t = t.args.any fun u => mixB gs (false, u) || mixG gs u := by
  have h0 : ∀ u : T, mixB gs (true, u) = false := fun u => by simp [mixB]
  have h1 : ∀ u : T, mixG gs u = (visL u.args).any (mixB gs) := fun u => by unfold mixG; rw [visT_eq, List.any_cons, h0]; simp
  rw [h1, any_visL]
  congr 1
  funext u
  rw [visT_eq, List.any_cons, h1 u]
def badN1 (t : T) : Bool := (partsT 1 t).any badN
theorem badN1_eq (h : Int) (ts : List T) : badN1 (.mk h ts) = (badN (1, .mk h ts) || ts.any badN1) := by
  unfold badN1
  rw [partsT, List.any_cons, any_partsL]
theorem chkT_args {h : Int} {ts : List T} (hc : chkT (.mk h ts) = 0) : (h < 0 → ts = []) ∧ ∀ k (hk : k < ts.length), chkT ts[k] = 0 :=
  ⟨fun hn => (chk_vis hc (true, .mk h ts) (by rw [visT_eq]; exact List.mem_cons_self ..)).1 hn, fun k hk => chk_part hc k hk⟩
def truG (gs : List Sy) (t : T) : Bool := decide (0 ≤ t.head) && (decide (t.head < gs.length) && trG gs t.head)
theorem mixB_tru {gs : List Sy} {t : T} (h : unkG gs t = false) : mixB gs (false, t) = truG gs t := by
  have h2 : unkB gs (false, t) = false := by rw [unkG_eq] at h; simp only [Bool.or_eq_false_iff] at h; exact h.1
  unfold mixB truG
  rw [h2]
  by_cases h0 : 0 ≤ t.head
  · have : ¬ (gs.length : Int) ≤ t.head := by
      intro hq; simp [unkB, h0, hq] at h2
    simp [h0, show t.head < gs.length by omega]
  · simp [h0]
theorem badN_iff {h : Int} {ts : List T} : badN (1, .mk h ts) = true ↔ (h < 0 ∧ 0 < ts.length) ∨ h < -256 ∨ 1023 < h ∨ 8 < ts.length := by
  have e : badN (1, .mk h ts) = (decide (h < 0) && decide (0 < ts.length) || decide (h < -256) || decide (1023 < h) || decide (8 < ts.length)) := rfl
  rw [e]; simp only [Bool.or_eq_true, Bool.and_eq_true, decide_eq_true_eq, or_assoc]
theorem unkB_iff {gs : List Sy} {b : Bool} {h : Int} {ts : List T} : unkB gs (b, .mk h ts) = true ↔ 0 ≤ h ∧ ((gs.length : Int) ≤ h ∨ (ts.length : Int) ≠ arG gs h) := by
  have e : unkB gs (b, .mk h ts) = (decide (0 ≤ h) && (decide ((gs.length : Int) ≤ h) || decide ((ts.length : Int) ≠ arG gs h))) := rfl
  rw [e]; simp only [Bool.or_eq_true, Bool.and_eq_true, decide_eq_true_eq]
/-! ### walks -/
theorem good_does : ∀ (n : Nat) (t : T), t.size ≤ n → ∀ (I : Imm) (v : Value), RepT I v t →
    Does Try.prog 159 [v] I [] (fun v I' δ' => v = .bool (!badN1 t) ∧ δ' = []) := by
  intro n
  induction n with
  | zero => intro t ht; have := t.size_pos; omega
  | succ n ih =>
    intro t ht I v hv
    obtain ⟨h, ts⟩ := t
    obtain ⟨ad, c, ss, rfl, hr, hc, hb, hat, hsub⟩ := hv.elim
    have hsz : (T.mk h ts).size = 1 + sizeL ts := by simp [T.size]
    have hbn : badN (1, .mk h ts) = true → badN1 (.mk h ts) = true := fun q => by rw [badN1_eq, q]; rfl
    refine Does.intro Try.func159 rfl Try.ntmps159 rfl fun w0 => ?_
    refine code_seq ?_
    refine code_region ?_
    refine o_box rfl rfl rfl (fun b1 => ?_)
    refine op_v (v_assign rfl) rfl ?_
    refine ops_nil ?_
    refine post_next ?_
    refine code_seq ?_
    refine code_seq ?_
    refine code_region ?_
    refine op_v (v_fieldB 0 Try.underlying47 rfl rfl fz3 rfl) rfl ?_
    refine op_v (v_loadA ty3 rfl rfl) rfl ?_
    by_cases h6 : h < 0
    · refine op_v (v_cmptA rfl rfl rfl) rfl ?_
      refine op_v (v_move rfl) rfl ?_
      first
        | (refine op_want rfl rfl ?_
           refine op_v (v_fieldB 1 Try.underlying47 rfl rfl fz45 rfl) rfl ?_)
        | (refine op_skip rfl rfl (by simp [undef]) rfl ?_)
      refine op_want rfl rfl ?_
      refine op_v (v_loadA ty45 rfl rfl) rfl ?_
      refine op_want rfl rfl ?_
      refine op_v (v_len Try.underlying45 rfl) rfl ?_
      by_cases h11 : 0 < ts.length
      · first
          | (refine op_want rfl rfl ?_
             refine op_v (v_cmptA rfl rfl rfl) rfl ?_)
          | (refine op_skip rfl rfl (by simp [undef]) rfl ?_)
        refine op_v (v_pickt rfl rfl) rfl ?_
        refine op_v (v_move rfl) rfl ?_
        refine op_skip rfl rfl (by simp [undef]) rfl ?_
        refine op_skip rfl rfl (by simp [undef]) rfl ?_
        refine op_skip rfl rfl (by simp [undef]) rfl ?_
        refine op_v (v_pickt rfl rfl) rfl ?_
        refine op_v (v_move rfl) rfl ?_
        refine op_skip rfl rfl (by simp [undef]) rfl ?_
        refine op_skip rfl rfl (by simp [undef]) rfl ?_
        refine op_skip rfl rfl (by simp [undef]) rfl ?_
        refine op_v (v_pickt rfl rfl) rfl ?_
        refine op_v (v_move rfl) rfl ?_
        refine op_skip rfl rfl (by simp [undef]) rfl ?_
        refine op_skip rfl rfl (by simp [undef]) rfl ?_
        refine op_skip rfl rfl (by simp [undef]) rfl ?_
        refine op_skip rfl rfl (by simp [undef]) rfl ?_
        refine op_v (v_pickt rfl rfl) rfl ?_
        refine ops_nil ?_
        refine post_next ?_
        refine code_cond_t rfl ?_
        refine code_seq ?_
        refine code_region ?_
        refine op_v (v_assign rfl) rfl ?_
        refine ops_nil ?_
        refine post_next ?_
        refine code_ret ?_
        refine post_ret_then ?_
        refine post_ret (rs := [.tmp 2]) rfl (List.Perm.refl _) (.cons (.tmp rfl) .nil) (List.nil_sublist _) ?_
        exact ⟨by rw [hbn (badN_iff.2 (.inl ⟨h6, h11⟩))]; rfl, rfl⟩
      · first
          | (refine op_want rfl rfl ?_
             refine op_v (v_cmpfA rfl rfl rfl) rfl ?_)
          | (refine op_skip rfl rfl (by simp [undef]) rfl ?_)
        refine op_v (v_pickt rfl rfl) rfl ?_
        refine op_v (v_move rfl) rfl ?_
        first
          | (refine op_want rfl rfl ?_
             refine op_v (v_fieldB 0 Try.underlying47 rfl rfl fz3 rfl) rfl ?_)
          | (refine op_skip rfl rfl (by simp [undef]) rfl ?_)
        refine op_want rfl rfl ?_
        refine op_v (v_loadA ty3 rfl rfl) rfl ?_
        by_cases h16 : h < -256
        · first
            | (refine op_want rfl rfl ?_
               refine op_v (v_cmptA rfl rfl rfl) rfl ?_)
            | (refine op_skip rfl rfl (by simp [undef]) rfl ?_)
          refine op_v (v_pickf rfl rfl) rfl ?_
          refine op_v (v_move rfl) rfl ?_
          refine op_skip rfl rfl (by simp [undef]) rfl ?_
          refine op_skip rfl rfl (by simp [undef]) rfl ?_
          refine op_skip rfl rfl (by simp [undef]) rfl ?_
          refine op_v (v_pickt rfl rfl) rfl ?_
          refine op_v (v_move rfl) rfl ?_
          refine op_skip rfl rfl (by simp [undef]) rfl ?_
          refine op_skip rfl rfl (by simp [undef]) rfl ?_
          refine op_skip rfl rfl (by simp [undef]) rfl ?_
          refine op_skip rfl rfl (by simp [undef]) rfl ?_
          refine op_v (v_pickt rfl rfl) rfl ?_
          refine ops_nil ?_
          refine post_next ?_
          refine code_cond_t rfl ?_
          refine code_seq ?_
          refine code_region ?_
          refine op_v (v_assign rfl) rfl ?_
          refine ops_nil ?_
          refine post_next ?_
          refine code_ret ?_
          refine post_ret_then ?_
          refine post_ret (rs := [.tmp 2]) rfl (List.Perm.refl _) (.cons (.tmp rfl) .nil) (List.nil_sublist _) ?_
          exact ⟨by rw [hbn (badN_iff.2 (.inr (.inl h16)))]; rfl, rfl⟩
        · first
            | (refine op_want rfl rfl ?_
               refine op_v (v_cmpfA rfl rfl rfl) rfl ?_)
            | (refine op_skip rfl rfl (by simp [undef]) rfl ?_)
          refine op_v (v_pickf rfl rfl) rfl ?_
          refine op_v (v_move rfl) rfl ?_
          first
            | (refine op_want rfl rfl ?_
               refine op_v (v_fieldB 0 Try.underlying47 rfl rfl fz3 rfl) rfl ?_)
            | (refine op_skip rfl rfl (by simp [undef]) rfl ?_)
          refine op_want rfl rfl ?_
          refine op_v (v_loadA ty3 rfl rfl) rfl ?_
          by_cases h21 : 1023 < h
          · first
              | (refine op_want rfl rfl ?_
                 refine op_v (v_cmptA rfl rfl rfl) rfl ?_)
              | (refine op_skip rfl rfl (by simp [undef]) rfl ?_)
            refine op_v (v_pickf rfl rfl) rfl ?_
            refine op_v (v_move rfl) rfl ?_
            refine op_skip rfl rfl (by simp [undef]) rfl ?_
            refine op_skip rfl rfl (by simp [undef]) rfl ?_
            refine op_skip rfl rfl (by simp [undef]) rfl ?_
            refine op_skip rfl rfl (by simp [undef]) rfl ?_
            refine op_v (v_pickt rfl rfl) rfl ?_
            refine ops_nil ?_
            refine post_next ?_
            refine code_cond_t rfl ?_
            refine code_seq ?_
            refine code_region ?_
            refine op_v (v_assign rfl) rfl ?_
            refine ops_nil ?_
            refine post_next ?_
            refine code_ret ?_
            refine post_ret_then ?_
            refine post_ret (rs := [.tmp 2]) rfl (List.Perm.refl _) (.cons (.tmp rfl) .nil) (List.nil_sublist _) ?_
            exact ⟨by rw [hbn (badN_iff.2 (.inr (.inr (.inl h21))))]; rfl, rfl⟩
          · first
              | (refine op_want rfl rfl ?_
                 refine op_v (v_cmpfA rfl rfl rfl) rfl ?_)
              | (refine op_skip rfl rfl (by simp [undef]) rfl ?_)
            refine op_v (v_pickf rfl rfl) rfl ?_
            refine op_v (v_move rfl) rfl ?_
            first
              | (refine op_want rfl rfl ?_
                 refine op_v (v_fieldB 1 Try.underlying47 rfl rfl fz45 rfl) rfl ?_)
              | (refine op_skip rfl rfl (by simp [undef]) rfl ?_)
            refine op_want rfl rfl ?_
            refine op_v (v_loadA ty45 rfl rfl) rfl ?_
            refine op_want rfl rfl ?_
            refine op_v (v_len Try.underlying45 rfl) rfl ?_
            by_cases h27 : 8 < ts.length
            · first
                | (refine op_want rfl rfl ?_
                   refine op_v (v_cmptA rfl rfl rfl) rfl ?_)
                | (refine op_skip rfl rfl (by simp [undef]) rfl ?_)
              refine op_v (v_pickf rfl rfl) rfl ?_
              refine ops_nil ?_
              refine post_next ?_
              refine code_cond_t rfl ?_
              refine code_seq ?_
              refine code_region ?_
              refine op_v (v_assign rfl) rfl ?_
              refine ops_nil ?_
              refine post_next ?_
              refine code_ret ?_
              refine post_ret_then ?_
              refine post_ret (rs := [.tmp 2]) rfl (List.Perm.refl _) (.cons (.tmp rfl) .nil) (List.nil_sublist _) ?_
              exact ⟨by rw [hbn (badN_iff.2 (.inr (.inr (.inr h27))))]; rfl, rfl⟩
            · have hno : badN (1, .mk h ts) = false := by { cases hq : badN (1, .mk h ts); rfl; rw [badN_iff] at hq; omega }
              first
                | (refine op_want rfl rfl ?_
                   refine op_v (v_cmpfA rfl rfl rfl) rfl ?_)
                | (refine op_skip rfl rfl (by simp [undef]) rfl ?_)
              refine op_v (v_pickf rfl rfl) rfl ?_
              refine ops_nil ?_
              refine post_next ?_
              refine code_cond_f rfl ?_
              refine code_skip ?_
              refine post_next ?_
              refine code_seq ?_
              refine code_seq ?_
              refine code_region ?_
              refine op_v (v_assign rfl) rfl ?_
              refine ops_nil ?_
              refine post_next ?_
              refine code_block ?_
              refine code_loop (fun m σ' I' δ' => ∃ k : Nat, m = ts.length - k ∧ k ≤ ts.length ∧ σ' = [(1, .pointer (some ⟨b1, 0, none⟩)), (3, .int .i64 k)] ∧ I.le I' ∧ δ' = [.box b1 47 [.int .i64 h, .slice ad ts.length c]] ∧ ∀ i (h : i < ts.length), i < k → badN1 ts[i] = false) ts.length [(1, .pointer (some ⟨b1, 0, none⟩)), (3, .int .i64 (0 : Nat))] ⟨0, rfl, Nat.zero_le _, rfl, Imm.le_refl _, rfl, fun i _ h => by omega⟩ ⟨rfl, rfl, trivial⟩ ?_
              rintro m _ I0 _ ⟨k, rfl, hk, rfl, hI0, rfl, hp⟩
              refine code_seq ?_
              refine code_seq ?_
              refine code_region ?_
              refine op_v (v_move rfl) rfl ?_
              refine op_v (v_fieldB 1 Try.underlying47 rfl rfl fz45 rfl) rfl ?_
              refine op_v (v_loadA ty45 rfl rfl) rfl ?_
              refine op_v (v_len Try.underlying45 rfl) rfl ?_
              refine op_v (v_cmpfA rfl rfl rfl) rfl ?_
              refine ops_nil ?_
              refine post_next ?_
              refine code_cond rfl (fun hc1 => ?_) (fun hc1 => ?_)
              · have hlt : k < ts.length := by simpa using hc1
                have hs1 := (hat k hlt).isSome
                have hm := sizeL_mem ts k hlt
                refine code_skip ?_
                refine post_next ?_
                refine code_seq ?_
                refine code_block ?_
                refine code_seq ?_
                refine code_region ?_
                refine op_v (v_fieldB 1 Try.underlying47 rfl rfl fz45 rfl) rfl ?_
                refine op_v (v_loadA ty45 rfl rfl) rfl ?_
                refine op_v (v_move rfl) rfl ?_
                refine op_v (v_indexA Try.underlying45 sz47 rfl rfl) rfl ?_
                refine op_v (v_loadI0 ty47 ((hat k hlt).mono hI0) rfl rfl rfl) rfl ?_
                refine op_call pl159 rfl rfl ((ih ts[k] (by omega) _ _ ((hsub k hlt).mono hI0))) Parts.none ?_
                rintro _ I41 _ hI41 ⟨rfl, rfl⟩
                by_cases h42 : badN1 ts[k] = true
                · rw [h42]
                  refine op_v (v_not rfl) rfl ?_
                  refine ops_nil ?_
                  refine post_next ?_
                  refine code_cond_t rfl ?_
                  refine code_seq ?_
                  refine code_region ?_
                  refine op_v (v_assign rfl) rfl ?_
                  refine ops_nil ?_
                  refine post_next ?_
                  refine code_ret ?_
                  refine post_ret_block ?_
                  refine post_ret_then ?_
                  refine post_ret_then ?_
                  refine post_ret_block ?_
                  refine post_ret_then ?_
                  refine post_ret (rs := [.tmp 2]) rfl (List.Perm.refl _) (.cons (.tmp rfl) .nil) (List.nil_sublist _) ?_
                  exact ⟨by rw [badN1_eq, any_at_true k hlt h42]; simp [outV], rfl⟩
                · have h42' : badN1 ts[k] = false := by simpa using h42
                  rw [h42']
                  refine op_v (v_not rfl) rfl ?_
                  refine ops_nil ?_
                  refine post_next ?_
                  refine code_cond_f rfl ?_
                  refine code_skip ?_
                  refine post_out ?_
                  refine post_next ?_
                  refine code_region ?_
                  refine op_v (v_move rfl) rfl ?_
                  refine op_v (v_addb rfl rfl rfl (by omega)) rfl ?_
                  refine op_v (v_assign rfl) rfl ?_
                  refine ops_nil ?_
                  refine post_again (ts.length - (k + 1)) [(1, .pointer (some ⟨b1, 0, none⟩)), (3, .int .i64 ((k + 1 : Nat) : Int))] (by omega) ⟨k + 1, rfl, hlt, rfl, Imm.le_trans hI0 hI41, rfl, ?_⟩ ⟨rfl, rfl, trivial⟩
                  intro i h hi
                  rcases Nat.lt_or_ge i k with hik | hik
                  · exact hp i h hik
                  have hik2 : i = k := by omega
                  subst hik2
                  exact h42'
              · have hge : k = ts.length := by simp at hc1; omega
                refine code_exit ?_
                refine post_exit_then ?_
                refine post_exit_then ?_
                refine post_exit ?_
                refine post_next ?_
                refine code_seq ?_
                refine code_region ?_
                refine op_v (v_assign rfl) rfl ?_
                refine ops_nil ?_
                refine post_next ?_
                refine code_ret ?_
                refine post_ret (rs := [.tmp 2]) rfl (List.Perm.refl _) (.cons (.tmp rfl) .nil) (List.nil_sublist _) ?_
                exact ⟨by rw [badN1_eq, any_all_false (fun i hi => hp i hi (by omega)), hno]; rfl, rfl⟩
    · refine op_v (v_cmpfA rfl rfl rfl) rfl ?_
      refine op_v (v_move rfl) rfl ?_
      refine op_skip rfl rfl (by simp [undef]) rfl ?_
      refine op_skip rfl rfl (by simp [undef]) rfl ?_
      refine op_skip rfl rfl (by simp [undef]) rfl ?_
      refine op_skip rfl rfl (by simp [undef]) rfl ?_
      refine op_v (v_pickf rfl rfl) rfl ?_
      refine op_v (v_move rfl) rfl ?_
      first
        | (refine op_want rfl rfl ?_
           refine op_v (v_fieldB 0 Try.underlying47 rfl rfl fz3 rfl) rfl ?_)
        | (refine op_skip rfl rfl (by simp [undef]) rfl ?_)
      refine op_want rfl rfl ?_
      refine op_v (v_loadA ty3 rfl rfl) rfl ?_
      by_cases h16 : h < -256
      · first
          | (refine op_want rfl rfl ?_
             refine op_v (v_cmptA rfl rfl rfl) rfl ?_)
          | (refine op_skip rfl rfl (by simp [undef]) rfl ?_)
        refine op_v (v_pickf rfl rfl) rfl ?_
        refine op_v (v_move rfl) rfl ?_
        refine op_skip rfl rfl (by simp [undef]) rfl ?_
        refine op_skip rfl rfl (by simp [undef]) rfl ?_
        refine op_skip rfl rfl (by simp [undef]) rfl ?_
        refine op_v (v_pickt rfl rfl) rfl ?_
        refine op_v (v_move rfl) rfl ?_
        refine op_skip rfl rfl (by simp [undef]) rfl ?_
        refine op_skip rfl rfl (by simp [undef]) rfl ?_
        refine op_skip rfl rfl (by simp [undef]) rfl ?_
        refine op_skip rfl rfl (by simp [undef]) rfl ?_
        refine op_v (v_pickt rfl rfl) rfl ?_
        refine ops_nil ?_
        refine post_next ?_
        refine code_cond_t rfl ?_
        refine code_seq ?_
        refine code_region ?_
        refine op_v (v_assign rfl) rfl ?_
        refine ops_nil ?_
        refine post_next ?_
        refine code_ret ?_
        refine post_ret_then ?_
        refine post_ret (rs := [.tmp 2]) rfl (List.Perm.refl _) (.cons (.tmp rfl) .nil) (List.nil_sublist _) ?_
        exact ⟨by rw [hbn (badN_iff.2 (.inr (.inl h16)))]; rfl, rfl⟩
      · first
          | (refine op_want rfl rfl ?_
             refine op_v (v_cmpfA rfl rfl rfl) rfl ?_)
          | (refine op_skip rfl rfl (by simp [undef]) rfl ?_)
        refine op_v (v_pickf rfl rfl) rfl ?_
        refine op_v (v_move rfl) rfl ?_
        first
          | (refine op_want rfl rfl ?_
             refine op_v (v_fieldB 0 Try.underlying47 rfl rfl fz3 rfl) rfl ?_)
          | (refine op_skip rfl rfl (by simp [undef]) rfl ?_)
        refine op_want rfl rfl ?_
        refine op_v (v_loadA ty3 rfl rfl) rfl ?_
        by_cases h21 : 1023 < h
        · first
            | (refine op_want rfl rfl ?_
               refine op_v (v_cmptA rfl rfl rfl) rfl ?_)
            | (refine op_skip rfl rfl (by simp [undef]) rfl ?_)
          refine op_v (v_pickf rfl rfl) rfl ?_
          refine op_v (v_move rfl) rfl ?_
          refine op_skip rfl rfl (by simp [undef]) rfl ?_
          refine op_skip rfl rfl (by simp [undef]) rfl ?_
          refine op_skip rfl rfl (by simp [undef]) rfl ?_
          refine op_skip rfl rfl (by simp [undef]) rfl ?_
          refine op_v (v_pickt rfl rfl) rfl ?_
          refine ops_nil ?_
          refine post_next ?_
          refine code_cond_t rfl ?_
          refine code_seq ?_
          refine code_region ?_
          refine op_v (v_assign rfl) rfl ?_
          refine ops_nil ?_
          refine post_next ?_
          refine code_ret ?_
          refine post_ret_then ?_
          refine post_ret (rs := [.tmp 2]) rfl (List.Perm.refl _) (.cons (.tmp rfl) .nil) (List.nil_sublist _) ?_
          exact ⟨by rw [hbn (badN_iff.2 (.inr (.inr (.inl h21))))]; rfl, rfl⟩
        · first
            | (refine op_want rfl rfl ?_
               refine op_v (v_cmpfA rfl rfl rfl) rfl ?_)
            | (refine op_skip rfl rfl (by simp [undef]) rfl ?_)
          refine op_v (v_pickf rfl rfl) rfl ?_
          refine op_v (v_move rfl) rfl ?_
          first
            | (refine op_want rfl rfl ?_
               refine op_v (v_fieldB 1 Try.underlying47 rfl rfl fz45 rfl) rfl ?_)
            | (refine op_skip rfl rfl (by simp [undef]) rfl ?_)
          refine op_want rfl rfl ?_
          refine op_v (v_loadA ty45 rfl rfl) rfl ?_
          refine op_want rfl rfl ?_
          refine op_v (v_len Try.underlying45 rfl) rfl ?_
          by_cases h27 : 8 < ts.length
          · first
              | (refine op_want rfl rfl ?_
                 refine op_v (v_cmptA rfl rfl rfl) rfl ?_)
              | (refine op_skip rfl rfl (by simp [undef]) rfl ?_)
            refine op_v (v_pickf rfl rfl) rfl ?_
            refine ops_nil ?_
            refine post_next ?_
            refine code_cond_t rfl ?_
            refine code_seq ?_
            refine code_region ?_
            refine op_v (v_assign rfl) rfl ?_
            refine ops_nil ?_
            refine post_next ?_
            refine code_ret ?_
            refine post_ret_then ?_
            refine post_ret (rs := [.tmp 2]) rfl (List.Perm.refl _) (.cons (.tmp rfl) .nil) (List.nil_sublist _) ?_
            exact ⟨by rw [hbn (badN_iff.2 (.inr (.inr (.inr h27))))]; rfl, rfl⟩
          · have hno : badN (1, .mk h ts) = false := by { cases hq : badN (1, .mk h ts); rfl; rw [badN_iff] at hq; omega }
            first
              | (refine op_want rfl rfl ?_
                 refine op_v (v_cmpfA rfl rfl rfl) rfl ?_)
              | (refine op_skip rfl rfl (by simp [undef]) rfl ?_)
            refine op_v (v_pickf rfl rfl) rfl ?_
            refine ops_nil ?_
            refine post_next ?_
            refine code_cond_f rfl ?_
            refine code_skip ?_
            refine post_next ?_
            refine code_seq ?_
            refine code_seq ?_
            refine code_region ?_
            refine op_v (v_assign rfl) rfl ?_
            refine ops_nil ?_
            refine post_next ?_
            refine code_block ?_
            refine code_loop (fun m σ' I' δ' => ∃ k : Nat, m = ts.length - k ∧ k ≤ ts.length ∧ σ' = [(1, .pointer (some ⟨b1, 0, none⟩)), (3, .int .i64 k)] ∧ I.le I' ∧ δ' = [.box b1 47 [.int .i64 h, .slice ad ts.length c]] ∧ ∀ i (h : i < ts.length), i < k → badN1 ts[i] = false) ts.length [(1, .pointer (some ⟨b1, 0, none⟩)), (3, .int .i64 (0 : Nat))] ⟨0, rfl, Nat.zero_le _, rfl, Imm.le_refl _, rfl, fun i _ h => by omega⟩ ⟨rfl, rfl, trivial⟩ ?_
            rintro m _ I0 _ ⟨k, rfl, hk, rfl, hI0, rfl, hp⟩
            refine code_seq ?_
            refine code_seq ?_
            refine code_region ?_
            refine op_v (v_move rfl) rfl ?_
            refine op_v (v_fieldB 1 Try.underlying47 rfl rfl fz45 rfl) rfl ?_
            refine op_v (v_loadA ty45 rfl rfl) rfl ?_
            refine op_v (v_len Try.underlying45 rfl) rfl ?_
            refine op_v (v_cmp rfl rfl rfl) rfl ?_
            refine ops_nil ?_
            refine post_next ?_
            refine code_cond rfl (fun hc1 => ?_) (fun hc1 => ?_)
            · have hlt : k < ts.length := by simpa using hc1
              have hs1 := (hat k hlt).isSome
              have hm := sizeL_mem ts k hlt
              refine code_skip ?_
              refine post_next ?_
              refine code_seq ?_
              refine code_block ?_
              refine code_seq ?_
              refine code_region ?_
              refine op_v (v_fieldB 1 Try.underlying47 rfl rfl fz45 rfl) rfl ?_
              refine op_v (v_loadA ty45 rfl rfl) rfl ?_
              refine op_v (v_move rfl) rfl ?_
              refine op_v (v_indexA Try.underlying45 sz47 rfl rfl) rfl ?_
              refine op_v (v_loadI0 ty47 ((hat k hlt).mono hI0) rfl rfl rfl) rfl ?_
              refine op_call pl159 rfl rfl ((ih ts[k] (by omega) _ _ ((hsub k hlt).mono hI0))) Parts.none ?_
              rintro _ I41 _ hI41 ⟨rfl, rfl⟩
              by_cases h42 : badN1 ts[k] = true
              · rw [h42]
                refine op_v (v_not rfl) rfl ?_
                refine ops_nil ?_
                refine post_next ?_
                refine code_cond_t rfl ?_
                refine code_seq ?_
                refine code_region ?_
                refine op_v (v_assign rfl) rfl ?_
                refine ops_nil ?_
                refine post_next ?_
                refine code_ret ?_
                refine post_ret_block ?_
                refine post_ret_then ?_
                refine post_ret_then ?_
                refine post_ret_block ?_
                refine post_ret_then ?_
                refine post_ret (rs := [.tmp 2]) rfl (List.Perm.refl _) (.cons (.tmp rfl) .nil) (List.nil_sublist _) ?_
                exact ⟨by rw [badN1_eq, any_at_true k hlt h42]; simp [outV], rfl⟩
              · have h42' : badN1 ts[k] = false := by simpa using h42
                rw [h42']
                refine op_v (v_not rfl) rfl ?_
                refine ops_nil ?_
                refine post_next ?_
                refine code_cond_f rfl ?_
                refine code_skip ?_
                refine post_out ?_
                refine post_next ?_
                refine code_region ?_
                refine op_v (v_move rfl) rfl ?_
                refine op_v (v_addb rfl rfl rfl (by omega)) rfl ?_
                refine op_v (v_assign rfl) rfl ?_
                refine ops_nil ?_
                refine post_again (ts.length - (k + 1)) [(1, .pointer (some ⟨b1, 0, none⟩)), (3, .int .i64 ((k + 1 : Nat) : Int))] (by omega) ⟨k + 1, rfl, hlt, rfl, Imm.le_trans hI0 hI41, rfl, ?_⟩ ⟨rfl, rfl, trivial⟩
                intro i h hi
                rcases Nat.lt_or_ge i k with hik | hik
                · exact hp i h hik
                have hik2 : i = k := by omega
                subst hik2
                exact h42'
            · have hge : k = ts.length := by simp at hc1; omega
              refine code_exit ?_
              refine post_exit_then ?_
              refine post_exit_then ?_
              refine post_exit ?_
              refine post_next ?_
              refine code_seq ?_
              refine code_region ?_
              refine op_v (v_assign rfl) rfl ?_
              refine ops_nil ?_
              refine post_next ?_
              refine code_ret ?_
              refine post_ret (rs := [.tmp 2]) rfl (List.Perm.refl _) (.cons (.tmp rfl) .nil) (List.nil_sublist _) ?_
              exact ⟨by rw [badN1_eq, any_all_false (fun i hi => hp i hi (by omega)), hno]; rfl, rfl⟩
theorem RCheck_does {I : Imm} {v : Value} {t : T} (hv : RepT I v t) (hbig : t.size ≤ 1000000000) :
    Does Try.prog 124 [v] I [] (fun v I' δ' => v = .int .i64 (chkT t) ∧ δ' = []) := by
  have hd := depT_size t
  obtain ⟨a0, c0, rfl, hr0⟩ := hv.shape
  refine Does.intro Try.func124 rfl Try.ntmps124 rfl fun w0 => ?_
  refine code_seq ?_
  refine code_region ?_
  refine o_box rfl rfl rfl (fun b1 => ?_)
  refine op_v (v_assign rfl) rfl ?_
  refine ops_nil ?_
  refine post_next ?_
  refine code_seq ?_
  refine code_seq ?_
  refine code_region ?_
  refine op_v (v_loadA ty47 rfl rfl) rfl ?_
  refine op_call pl152 rfl rfl ((Size_does _ _ (Nat.le_refl _) hbig _ _ (hv.mono Imm.leA))) Parts.none ?_
  rintro _ I4 _ hI4 ⟨rfl, rfl⟩
  by_cases h5 : 400 < t.size
  · refine op_v (v_cmptA rfl rfl rfl) rfl ?_
    refine ops_nil ?_
    refine post_next ?_
    refine code_cond_t rfl ?_
    refine code_seq ?_
    refine code_region ?_
    refine op_v (v_assign rfl) rfl ?_
    refine ops_nil ?_
    refine post_next ?_
    refine code_ret ?_
    refine post_ret_then ?_
    refine post_ret (rs := [.tmp 2]) rfl (List.Perm.refl _) (.cons (.tmp rfl) .nil) (List.nil_sublist _) ?_
    exact ⟨by unfold chkT; rw [if_pos h5]; rfl, rfl⟩
  · refine op_v (v_cmpfA rfl rfl rfl) rfl ?_
    refine ops_nil ?_
    refine post_next ?_
    refine code_cond_f rfl ?_
    refine code_skip ?_
    refine post_next ?_
    refine code_seq ?_
    refine code_seq ?_
    refine code_region ?_
    refine op_v (v_loadA ty47 rfl rfl) rfl ?_
    refine op_call pl158 rfl rfl ((Depth_does _ _ (Nat.le_refl _) hbig _ _ (hv.mono Imm.leA))) Parts.none ?_
    rintro _ I7 _ hI7 ⟨rfl, rfl⟩
    by_cases h8 : 40 < depT t
    · refine op_v (v_cmptA rfl rfl rfl) rfl ?_
      refine ops_nil ?_
      refine post_next ?_
      refine code_cond_t rfl ?_
      refine code_seq ?_
      refine code_region ?_
      refine op_v (v_assign rfl) rfl ?_
      refine ops_nil ?_
      refine post_next ?_
      refine code_ret ?_
      refine post_ret_then ?_
      refine post_ret (rs := [.tmp 2]) rfl (List.Perm.refl _) (.cons (.tmp rfl) .nil) (List.nil_sublist _) ?_
      exact ⟨by unfold chkT; rw [if_neg h5, if_pos h8]; rfl, rfl⟩
    · refine op_v (v_cmpfA rfl rfl rfl) rfl ?_
      refine ops_nil ?_
      refine post_next ?_
      refine code_cond_f rfl ?_
      refine code_skip ?_
      refine post_next ?_
      refine code_seq ?_
      refine code_seq ?_
      refine code_region ?_
      refine op_v (v_loadA ty47 rfl rfl) rfl ?_
      refine op_call pl159 rfl rfl ((good_does _ _ (Nat.le_refl _) _ _ (hv.mono Imm.leA))) Parts.none ?_
      rintro _ I10 _ hI10 ⟨rfl, rfl⟩
      by_cases h11 : badN1 t = true
      · rw [h11]
        refine op_v (v_not rfl) rfl ?_
        refine ops_nil ?_
        refine post_next ?_
        refine code_cond_t rfl ?_
        refine code_seq ?_
        refine code_region ?_
        refine op_v (v_assign rfl) rfl ?_
        refine ops_nil ?_
        refine post_next ?_
        refine code_ret ?_
        refine post_ret_then ?_
        refine post_ret (rs := [.tmp 2]) rfl (List.Perm.refl _) (.cons (.tmp rfl) .nil) (List.nil_sublist _) ?_
        exact ⟨by unfold chkT; rw [if_neg h5, if_neg h8, if_pos (show (partsT 1 t).any badN = true from h11)]; rfl, rfl⟩
      · have h11' : badN1 t = false := by simpa using h11
        rw [h11']
        refine op_v (v_not rfl) rfl ?_
        refine ops_nil ?_
        refine post_next ?_
        refine code_cond_f rfl ?_
        refine code_skip ?_
        refine post_next ?_
        refine code_seq ?_
        refine code_region ?_
        refine op_v (v_assign rfl) rfl ?_
        refine ops_nil ?_
        refine post_next ?_
        refine code_ret ?_
        refine post_ret (rs := [.tmp 2]) rfl (List.Perm.refl _) (.cons (.tmp rfl) .nil) (List.nil_sublist _) ?_
        exact ⟨by unfold chkT; rw [if_neg h5, if_neg h8, if_neg (show ¬ (partsT 1 t).any badN = true by { rw [show (partsT 1 t).any badN = false from h11']; simp })]; rfl, rfl⟩
theorem known_does {gs : List Sy} : ∀ (n : Nat) (t : T), t.size ≤ n → chkT t = 0 → ∀ (I : Imm) (vg v : Value), RepG I vg gs → RepT I v t →
    Does Try.prog 147 [vg, v] I [] (fun v I' δ' => v = .bool (!unkG gs t) ∧ δ' = []) := by
  intro n
  induction n with
  | zero => intro t ht; have := t.size_pos; omega
  | succ n ih =>
    intro t ht hck I vg v hg hv
    obtain ⟨h, ts⟩ := t
    obtain ⟨ga, gc, rfl⟩ := hg.shape
    obtain ⟨_, hgc, hgb, hgat, hgok⟩ := hg.open
    obtain ⟨ad, c, ss, rfl, hr, hc, hb, hat, hsub⟩ := hv.elim
    have hsz : (T.mk h ts).size = 1 + sizeL ts := by simp [T.size]
    obtain ⟨hlf, hch⟩ := chkT_args hck
    have hun : unkB gs (true, .mk h ts) = true → unkG gs (.mk h ts) = true := fun q => by rw [unkG_eq, q]; rfl
    refine Does.intro Try.func147 rfl Try.ntmps147 rfl fun w0 => ?_
    refine code_seq ?_
    refine code_region ?_
    refine o_box rfl rfl rfl (fun b3 => ?_)
    refine op_v (v_assign rfl) rfl ?_
    refine ops_nil ?_
    refine post_next ?_
    refine code_seq ?_
    refine code_seq ?_
    refine code_region ?_
    refine op_v (v_fieldB 0 Try.underlying47 rfl rfl fz3 rfl) rfl ?_
    refine op_v (v_loadA ty3 rfl rfl) rfl ?_
    by_cases h8 : h < 0
    · refine op_v (v_cmptA rfl rfl rfl) rfl ?_
      refine ops_nil ?_
      refine post_next ?_
      refine code_cond_t rfl ?_
      refine code_seq ?_
      refine code_region ?_
      refine op_v (v_assign rfl) rfl ?_
      refine ops_nil ?_
      refine post_next ?_
      refine code_ret ?_
      refine post_ret_then ?_
      refine post_ret (rs := [.tmp 4]) rfl (List.Perm.refl _) (.cons (.tmp rfl) .nil) (List.nil_sublist _) ?_
      have hl := hlf h8
      subst hl
      have : unkG gs (.mk h []) = false := by { rw [unkG_eq]; have : ¬ 0 ≤ h := by { omega }; simp [unkB, T.head, T.args, this] }
      exact ⟨by rw [this]; rfl, rfl⟩
    · refine op_v (v_cmpfA rfl rfl rfl) rfl ?_
      refine ops_nil ?_
      refine post_next ?_
      refine code_cond_f rfl ?_
      refine code_skip ?_
      refine post_next ?_
      refine code_seq ?_
      refine code_seq ?_
      refine code_draw (.fl 0 (.fl 1 (.fl 2 (.fl 3 (.fl 4 (.fl 5 (.fl 6 (.fl 7 (.fl 8 (.fl 9 (.fl 10 (.fl 11 (.fl 12 (.fl 13 (.fl 14 (.fl 15 (.fl 16 .done))))))))))))))))) (fun _ => _) mixed (by kernel_rfl) (by kernel_rfl) (fun _ => (List.Sublist.refl _)) ?_
      refine e_fl rfl rfl (fun hs_ => PF.mk rfl (v_fieldB 0 Try.underlying47 rfl rfl fz3 rfl) hs_) ?_
      refine e_fl rfl rfl (fun hs_ => PF.mk rfl (v_loadA ty3 rfl rfl) hs_) ?_
      refine e_fl rfl rfl (fun hs_ => PF.mk rfl (v_move rfl) hs_) ?_
      refine e_fl rfl rfl (fun hs_ => PF.mk rfl (v_len Try.underlying22 rfl) hs_) ?_
      by_cases h13 : (gs.length : Int) ≤ h
      · refine e_fl rfl rfl (fun hs_ => PF.mk rfl (v_cmptA rfl rfl rfl) hs_) ?_
        refine e_fl rfl rfl (fun hs_ => PF.mk rfl (v_move rfl) hs_) ?_
        refine e_fl rfl rfl (fun hs_ => PF.mks rfl (by intro c hc; cases hc) rfl rfl (by simp [undef]) hs_) ?_
        refine e_fl rfl rfl (fun hs_ => PF.mks rfl (by intro c hc; cases hc) rfl rfl (by simp [undef]) hs_) ?_
        refine e_fl rfl rfl (fun hs_ => PF.mks rfl (by intro c hc; cases hc) rfl rfl (by simp [undef]) hs_) ?_
        refine e_fl rfl rfl (fun hs_ => PF.mks rfl (by intro c hc; cases hc) rfl rfl (by simp [undef]) hs_) ?_
        refine e_fl rfl rfl (fun hs_ => PF.mks rfl (by intro c hc; cases hc) rfl rfl (by simp [undef]) hs_) ?_
        refine e_fl rfl rfl (fun hs_ => PF.mks rfl (by intro c hc; cases hc) rfl rfl (by simp [undef]) hs_) ?_
        refine e_fl rfl rfl (fun hs_ => PF.mks rfl (by intro c hc; cases hc) rfl rfl (by simp [undef]) hs_) ?_
        refine e_fl rfl rfl (fun hs_ => PF.mks rfl (by intro c hc; cases hc) rfl rfl (by simp [undef]) hs_) ?_
        refine e_fl rfl rfl (fun hs_ => PF.mks rfl (by intro c hc; cases hc) rfl rfl (by simp [undef]) hs_) ?_
        refine e_fl rfl rfl (fun hs_ => PF.mks rfl (by intro c hc; cases hc) rfl rfl (by simp [undef]) hs_) ?_
        refine e_fl rfl rfl (fun hs_ => PF.mk rfl (v_pickt rfl rfl) hs_) ?_
        refine e_done ?_
        refine post_next ?_
        refine code_cond_t rfl ?_
        refine code_seq ?_
        refine code_region ?_
        refine op_v (v_assign rfl) rfl ?_
        refine ops_nil ?_
        refine post_next ?_
        refine code_ret ?_
        refine post_ret_then ?_
        refine post_ret (rs := [.tmp 4]) rfl (List.Perm.refl _) (.cons (.tmp rfl) .nil) (List.nil_sublist _) ?_
        exact ⟨by rw [hun (unkB_iff.2 ⟨by omega, .inl h13⟩)]; rfl, rfl⟩
      · have hlt0 : h.toNat < gs.length := by omega
        have hs0 := (hgat _ hlt0).isSome
        have hgat1 : ∀ J, I.le J → At J ga (h.toNat * 4) [.string gs[h.toNat].name, .int .i64 gs[h.toNat].ar, .int .i64 gs[h.toNat].wt, .bool gs[h.toNat].tr] := fun J hJ => (hgat _ hlt0).mono hJ
        refine e_fl rfl rfl (fun hs_ => PF.mk rfl (v_cmpfA rfl rfl rfl) hs_) ?_
        refine e_fl rfl rfl (fun hs_ => PF.mk rfl (v_move rfl) hs_) ?_
        refine e_fl rfl rfl (fun hs_ => PF.mkg rfl rfl rfl (v_fieldB 1 Try.underlying47 rfl rfl fz45 rfl) hs_) ?_
        refine e_fl rfl rfl (fun hs_ => PF.mkg rfl rfl rfl (v_loadA ty45 rfl rfl) hs_) ?_
        refine e_fl rfl rfl (fun hs_ => PF.mkg rfl rfl rfl (v_len Try.underlying45 rfl) hs_) ?_
        refine e_fl rfl rfl (fun hs_ => PF.mkg rfl rfl rfl (v_move rfl) hs_) ?_
        refine e_fl rfl rfl (fun hs_ => PF.mkg rfl rfl rfl (v_fieldB 0 Try.underlying47 rfl rfl fz3 rfl) hs_) ?_
        refine e_fl rfl rfl (fun hs_ => PF.mkg rfl rfl rfl (v_loadA ty3 rfl rfl) hs_) ?_
        refine e_fl rfl rfl (fun hs_ => PF.mkg rfl rfl rfl (v_indexIA Try.underlying22 sz79 rfl rfl) hs_) ?_
        refine e_fl rfl rfl (fun hs_ => PF.mkg rfl rfl rfl (v_fieldI 1 Try.underlying79 rfl rfl fz3 rfl (by assumption)) hs_) ?_
        refine e_fl rfl rfl (fun hs_ => PF.mkg rfl rfl rfl (v_loadI ty3 (hgat _ hlt0) rfl rfl rfl) hs_) ?_
        by_cases h24 : (ts.length : Int) ≠ (gs[h.toNat]'hlt0).ar
        · refine e_fl rfl rfl (fun hs_ => PF.mkg rfl rfl rfl (v_cmptA rfl rfl rfl) hs_) ?_
          refine e_fl rfl rfl (fun hs_ => PF.mk rfl (v_pickf rfl rfl) hs_) ?_
          refine e_done ?_
          refine post_next ?_
          refine code_cond_t rfl ?_
          refine code_seq ?_
          refine code_region ?_
          refine op_v (v_assign rfl) rfl ?_
          refine ops_nil ?_
          refine post_next ?_
          refine code_ret ?_
          refine post_ret_then ?_
          refine post_ret (rs := [.tmp 4]) rfl (List.Perm.refl _) (.cons (.tmp rfl) .nil) (List.nil_sublist _) ?_
          exact ⟨by rw [hun (unkB_iff.2 ⟨by omega, .inr (by rw [arG_at (gs := gs) (h := h) (by omega) (by omega)]; exact h24)⟩)]; rfl, rfl⟩
        · have hno : unkB gs (true, .mk h ts) = false := by { cases hq : unkB gs (true, .mk h ts); rfl; rw [unkB_iff] at hq; rw [arG_at (gs := gs) (h := h) (by omega) (by omega)] at hq; omega }
          refine e_fl rfl rfl (fun hs_ => PF.mkg rfl rfl rfl (v_cmpfA rfl rfl rfl) hs_) ?_
          refine e_fl rfl rfl (fun hs_ => PF.mk rfl (v_pickf rfl rfl) hs_) ?_
          refine e_done ?_
          refine post_next ?_
          refine code_cond_f rfl ?_
          refine code_skip ?_
          refine post_next ?_
          refine code_seq ?_
          refine code_seq ?_
          refine code_region ?_
          refine op_v (v_assign rfl) rfl ?_
          refine ops_nil ?_
          refine post_next ?_
          refine code_block ?_
          refine code_loop (fun m σ' I' δ' => ∃ k : Nat, m = ts.length - k ∧ k ≤ ts.length ∧ σ' = [(0, .slice ga gs.length gc), (3, .pointer (some ⟨b3, 0, none⟩)), (5, .int .i64 k)] ∧ I.le I' ∧ δ' = [.box b3 47 [.int .i64 h, .slice ad ts.length c]] ∧ ∀ i (h : i < ts.length), i < k → unkG gs ts[i] = false) ts.length [(0, .slice ga gs.length gc), (3, .pointer (some ⟨b3, 0, none⟩)), (5, .int .i64 (0 : Nat))] ⟨0, rfl, Nat.zero_le _, rfl, Imm.le_refl _, rfl, fun i _ h => by omega⟩ ⟨rfl, rfl, rfl, trivial⟩ ?_
          rintro m _ I0 _ ⟨k, rfl, hk, rfl, hI0, rfl, hp⟩
          refine code_seq ?_
          refine code_seq ?_
          refine code_region ?_
          refine op_v (v_move rfl) rfl ?_
          refine op_v (v_fieldB 1 Try.underlying47 rfl rfl fz45 rfl) rfl ?_
          refine op_v (v_loadA ty45 rfl rfl) rfl ?_
          refine op_v (v_len Try.underlying45 rfl) rfl ?_
          refine op_v (v_cmp rfl rfl rfl) rfl ?_
          refine ops_nil ?_
          refine post_next ?_
          refine code_cond rfl (fun hc2 => ?_) (fun hc2 => ?_)
          · have hlt : k < ts.length := by simpa using hc2
            have hs1 := (hat k hlt).isSome
            have hm := sizeL_mem ts k hlt
            refine code_skip ?_
            refine post_next ?_
            refine code_seq ?_
            refine code_block ?_
            refine code_seq ?_
            refine code_region ?_
            refine op_v (v_move rfl) rfl ?_
            refine op_v (v_fieldB 1 Try.underlying47 rfl rfl fz45 rfl) rfl ?_
            refine op_v (v_loadA ty45 rfl rfl) rfl ?_
            refine op_v (v_move rfl) rfl ?_
            refine op_v (v_indexA Try.underlying45 sz47 rfl rfl) rfl ?_
            refine op_v (v_loadI0 ty47 ((hat k hlt).mono hI0) rfl rfl rfl) rfl ?_
            refine op_call pl147 rfl rfl ((ih ts[k] (by omega) (hch k hlt) _ _ _ (hg.mono hI0) ((hsub k hlt).mono hI0))) Parts.none ?_
            rintro _ I39 _ hI39 ⟨rfl, rfl⟩
            by_cases h40 : unkG gs ts[k] = true
            · rw [h40]
              refine op_v (v_not rfl) rfl ?_
              refine ops_nil ?_
              refine post_next ?_
              refine code_cond_t rfl ?_
              refine code_seq ?_
              refine code_region ?_
              refine op_v (v_assign rfl) rfl ?_
              refine ops_nil ?_
              refine post_next ?_
              refine code_ret ?_
              refine post_ret_block ?_
              refine post_ret_then ?_
              refine post_ret_then ?_
              refine post_ret_block ?_
              refine post_ret_then ?_
              refine post_ret (rs := [.tmp 4]) rfl (List.Perm.refl _) (.cons (.tmp rfl) .nil) (List.nil_sublist _) ?_
              exact ⟨by rw [unkG_eq, show (T.mk h ts).args = ts from rfl, any_at_true k hlt h40]; simp [outV], rfl⟩
            · have h40' : unkG gs ts[k] = false := by simpa using h40
              rw [h40']
              refine op_v (v_not rfl) rfl ?_
              refine ops_nil ?_
              refine post_next ?_
              refine code_cond_f rfl ?_
              refine code_skip ?_
              refine post_out ?_
              refine post_next ?_
              refine code_region ?_
              refine op_v (v_move rfl) rfl ?_
              refine op_v (v_addb rfl rfl rfl (by omega)) rfl ?_
              refine op_v (v_assign rfl) rfl ?_
              refine ops_nil ?_
              refine post_again (ts.length - (k + 1)) [(0, .slice ga gs.length gc), (3, .pointer (some ⟨b3, 0, none⟩)), (5, .int .i64 ((k + 1 : Nat) : Int))] (by omega) ⟨k + 1, rfl, hlt, rfl, Imm.le_trans hI0 hI39, rfl, ?_⟩ ⟨rfl, rfl, rfl, trivial⟩
              intro i h hi
              rcases Nat.lt_or_ge i k with hik | hik
              · exact hp i h hik
              have hik2 : i = k := by omega
              subst hik2
              exact h40'
          · have hge : k = ts.length := by simp at hc2; omega
            refine code_exit ?_
            refine post_exit_then ?_
            refine post_exit_then ?_
            refine post_exit ?_
            refine post_next ?_
            refine code_seq ?_
            refine code_region ?_
            refine op_v (v_assign rfl) rfl ?_
            refine ops_nil ?_
            refine post_next ?_
            refine code_ret ?_
            refine post_ret (rs := [.tmp 4]) rfl (List.Perm.refl _) (.cons (.tmp rfl) .nil) (List.nil_sublist _) ?_
            exact ⟨by rw [unkG_eq, show (T.mk h ts).args = ts from rfl, any_all_false (fun i hi => hp i hi (by omega)), hno]; rfl, rfl⟩
theorem Truth_does {I : Imm} {vg v : Value} {gs : List Sy} {t : T} (hg : RepG I vg gs) (hv : RepT I v t) :
    Does Try.prog 112 [vg, v] I [] (fun v I' δ' => v = .bool (truG gs t) ∧ δ' = []) := by
  obtain ⟨ga, gc, rfl⟩ := hg.shape
  obtain ⟨_, hgc, hgb, hgat, hgok⟩ := hg.open
  obtain ⟨a0, c0, rfl, hr0⟩ := hv.shape
  refine Does.intro Try.func112 rfl Try.ntmps112 rfl fun w0 => ?_
  refine code_seq ?_
  refine code_region ?_
  refine o_box rfl rfl rfl (fun b3 => ?_)
  refine op_v (v_assign rfl) rfl ?_
  refine ops_nil ?_
  refine post_next ?_
  refine code_seq ?_
  refine code_region ?_
  refine op_v (v_fieldB 0 Try.underlying47 rfl rfl fz3 rfl) rfl ?_
  refine op_v (v_loadA ty3 rfl rfl) rfl ?_
  by_cases h7 : 0 ≤ t.head
  · refine op_v (v_cmptA rfl rfl rfl) rfl ?_
    refine op_v (v_move rfl) rfl ?_
    first
      | (refine op_want rfl rfl ?_
         refine op_v (v_fieldB 0 Try.underlying47 rfl rfl fz3 rfl) rfl ?_)
      | (refine op_skip rfl rfl (by simp [undef]) rfl ?_)
    refine op_want rfl rfl ?_
    refine op_v (v_loadA ty3 rfl rfl) rfl ?_
    refine op_want rfl rfl ?_
    refine op_v (v_move rfl) rfl ?_
    refine op_want rfl rfl ?_
    refine op_v (v_len Try.underlying22 rfl) rfl ?_
    by_cases h13 : t.head < (gs.length : Int)
    · have hlt0 : t.head.toNat < gs.length := by omega
      have hs0 := (hgat _ hlt0).isSome
      first
        | (refine op_want rfl rfl ?_
           refine op_v (v_cmptA rfl rfl rfl) rfl ?_)
        | (refine op_skip rfl rfl (by simp [undef]) rfl ?_)
      refine op_v (v_pickt rfl rfl) rfl ?_
      refine op_v (v_move rfl) rfl ?_
      refine op_want rfl rfl ?_
      refine op_v (v_move rfl) rfl ?_
      first
        | (refine op_want rfl rfl ?_
           refine op_v (v_fieldB 0 Try.underlying47 rfl rfl fz3 rfl) rfl ?_)
        | (refine op_skip rfl rfl (by simp [undef]) rfl ?_)
      refine op_want rfl rfl ?_
      refine op_v (v_loadA ty3 rfl rfl) rfl ?_
      refine op_want rfl rfl ?_
      refine op_v (v_indexIA Try.underlying22 sz79 rfl rfl) rfl ?_
      first
        | (refine op_want rfl rfl ?_
           refine op_v (v_fieldI 3 Try.underlying79 rfl rfl fz4 rfl (by assumption)) rfl ?_)
        | (refine op_skip rfl rfl (by simp [undef]) rfl ?_)
      refine op_want rfl rfl ?_
      refine op_v (v_loadI ty4 (hgat _ hlt0) rfl rfl rfl) rfl ?_
      refine op_v (v_pickt rfl rfl) rfl ?_
      refine op_v (v_assign rfl) rfl ?_
      refine ops_nil ?_
      refine post_next ?_
      refine code_ret ?_
      refine post_ret (rs := [.tmp 4]) rfl (List.Perm.refl _) (.cons (.tmp rfl) .nil) (List.nil_sublist _) ?_
      exact ⟨by simp [outV, truG, h7, h13, trG_at h7 h13], rfl⟩
    · first
        | (refine op_want rfl rfl ?_
           refine op_v (v_cmpfA rfl rfl rfl) rfl ?_)
        | (refine op_skip rfl rfl (by simp [undef]) rfl ?_)
      refine op_v (v_pickt rfl rfl) rfl ?_
      refine op_v (v_move rfl) rfl ?_
      refine op_skip rfl rfl (by simp [undef]) rfl ?_
      refine op_skip rfl rfl (by simp [undef]) rfl ?_
      refine op_skip rfl rfl (by simp [undef]) rfl ?_
      refine op_skip rfl rfl (by simp [undef]) rfl ?_
      refine op_skip rfl rfl (by simp [undef]) rfl ?_
      refine op_skip rfl rfl (by simp [undef]) rfl ?_
      refine op_v (v_pickf rfl rfl) rfl ?_
      refine op_v (v_assign rfl) rfl ?_
      refine ops_nil ?_
      refine post_next ?_
      refine code_ret ?_
      refine post_ret (rs := [.tmp 4]) rfl (List.Perm.refl _) (.cons (.tmp rfl) .nil) (List.nil_sublist _) ?_
      exact ⟨by simp [outV, truG, h13], rfl⟩
  · refine op_v (v_cmpfA rfl rfl rfl) rfl ?_
    refine op_v (v_move rfl) rfl ?_
    refine op_skip rfl rfl (by simp [undef]) rfl ?_
    refine op_skip rfl rfl (by simp [undef]) rfl ?_
    refine op_skip rfl rfl (by simp [undef]) rfl ?_
    refine op_skip rfl rfl (by simp [undef]) rfl ?_
    refine op_skip rfl rfl (by simp [undef]) rfl ?_
    refine op_v (v_pickf rfl rfl) rfl ?_
    refine op_v (v_move rfl) rfl ?_
    refine op_skip rfl rfl (by simp [undef]) rfl ?_
    refine op_skip rfl rfl (by simp [undef]) rfl ?_
    refine op_skip rfl rfl (by simp [undef]) rfl ?_
    refine op_skip rfl rfl (by simp [undef]) rfl ?_
    refine op_skip rfl rfl (by simp [undef]) rfl ?_
    refine op_skip rfl rfl (by simp [undef]) rfl ?_
    refine op_v (v_pickf rfl rfl) rfl ?_
    refine op_v (v_assign rfl) rfl ?_
    refine ops_nil ?_
    refine post_next ?_
    refine code_ret ?_
    refine post_ret (rs := [.tmp 4]) rfl (List.Perm.refl _) (.cons (.tmp rfl) .nil) (List.nil_sublist _) ?_
    exact ⟨by simp [outV, truG, h7], rfl⟩
theorem things_does {gs : List Sy} : ∀ (n : Nat) (t : T), t.size ≤ n → unkG gs t = false → ∀ (I : Imm) (vg v : Value), RepG I vg gs → RepT I v t →
    Does Try.prog 148 [vg, v] I [] (fun v I' δ' => v = .bool (!mixG gs t) ∧ δ' = []) := by
  intro n
  induction n with
  | zero => intro t ht; have := t.size_pos; omega
  | succ n ih =>
    intro t ht hun I vg v hg hv
    obtain ⟨h, ts⟩ := t
    obtain ⟨ga, gc, rfl⟩ := hg.shape
    obtain ⟨ad, c, ss, rfl, hr, hc, hb, hat, hsub⟩ := hv.elim
    have hsz : (T.mk h ts).size = 1 + sizeL ts := by simp [T.size]
    have hch : ∀ k (hk : k < ts.length), unkG gs ts[k] = false := fun k hk => by
      rw [unkG_eq] at hun
      simp only [Bool.or_eq_false_iff] at hun
      have h2 := hun.2
      rw [List.any_eq_false] at h2
      simpa using h2 ts[k] (List.getElem_mem hk)
    refine Does.intro Try.func148 rfl Try.ntmps148 rfl fun w0 => ?_
    refine code_seq ?_
    refine code_region ?_
    refine o_box rfl rfl rfl (fun b3 => ?_)
    refine op_v (v_assign rfl) rfl ?_
    refine ops_nil ?_
    refine post_next ?_
    refine code_seq ?_
    refine code_seq ?_
    refine code_region ?_
    refine op_v (v_assign rfl) rfl ?_
    refine ops_nil ?_
    refine post_next ?_
    refine code_block ?_
    refine code_loop (fun m σ' I' δ' => ∃ k : Nat, m = ts.length - k ∧ k ≤ ts.length ∧ σ' = [(0, .slice ga gs.length gc), (3, .pointer (some ⟨b3, 0, none⟩)), (5, .int .i64 k)] ∧ I.le I' ∧ δ' = [.box b3 47 [.int .i64 h, .slice ad ts.length c]] ∧ ∀ i (h : i < ts.length), i < k → (mixB gs (false, ts[i]) || mixG gs ts[i]) = false) ts.length [(0, .slice ga gs.length gc), (3, .pointer (some ⟨b3, 0, none⟩)), (5, .int .i64 (0 : Nat))] ⟨0, rfl, Nat.zero_le _, rfl, Imm.le_refl _, rfl, fun i _ h => by omega⟩ ⟨rfl, rfl, rfl, trivial⟩ ?_
    rintro m _ I0 _ ⟨k, rfl, hk, rfl, hI0, rfl, hp⟩
    refine code_seq ?_
    refine code_seq ?_
    refine code_region ?_
    refine op_v (v_move rfl) rfl ?_
    refine op_v (v_fieldB 1 Try.underlying47 rfl rfl fz45 rfl) rfl ?_
    refine op_v (v_loadA ty45 rfl rfl) rfl ?_
    refine op_v (v_len Try.underlying45 rfl) rfl ?_
    refine op_v (v_cmp rfl rfl rfl) rfl ?_
    refine ops_nil ?_
    refine post_next ?_
    refine code_cond rfl (fun hc0 => ?_) (fun hc0 => ?_)
    · have hlt : k < ts.length := by simpa using hc0
      have hs1 := (hat k hlt).isSome
      have hm := sizeL_mem ts k hlt
      refine code_skip ?_
      refine post_next ?_
      refine code_seq ?_
      refine code_block ?_
      refine code_seq ?_
      refine code_region ?_
      refine op_v (v_move rfl) rfl ?_
      refine op_v (v_fieldB 1 Try.underlying47 rfl rfl fz45 rfl) rfl ?_
      refine op_v (v_loadA ty45 rfl rfl) rfl ?_
      refine op_v (v_move rfl) rfl ?_
      refine op_v (v_indexA Try.underlying45 sz47 rfl rfl) rfl ?_
      refine op_v (v_loadI0 ty47 ((hat k hlt).mono hI0) rfl rfl rfl) rfl ?_
      refine op_call pl112 rfl rfl ((Truth_does (hg.mono hI0) ((hsub k hlt).mono hI0))) Parts.none ?_
      rintro _ I19 _ hI19 ⟨rfl, rfl⟩
      rw [← mixB_tru (hch k hlt)]
      by_cases h20 : mixB gs (false, ts[k]) = true
      · rw [h20]
        refine op_v (v_move rfl) rfl ?_
        refine op_skip rfl rfl (by simp [undef]) rfl ?_
        refine op_skip rfl rfl (by simp [undef]) rfl ?_
        refine op_skip rfl rfl (by simp [undef]) rfl ?_
        refine op_skip rfl rfl (by simp [undef]) rfl ?_
        refine op_skip rfl rfl (by simp [undef]) rfl ?_
        refine op_skip rfl rfl (by simp [undef]) rfl ?_
        refine op_skip rfl rfl (by simp [undef]) rfl ?_
        refine op_skip rfl rfl (by simp [undef]) rfl ?_
        refine op_v (v_pickt rfl rfl) rfl ?_
        refine ops_nil ?_
        refine post_next ?_
        refine code_cond_t rfl ?_
        refine code_seq ?_
        refine code_region ?_
        refine op_v (v_assign rfl) rfl ?_
        refine ops_nil ?_
        refine post_next ?_
        refine code_ret ?_
        refine post_ret_block ?_
        refine post_ret_then ?_
        refine post_ret_then ?_
        refine post_ret_block ?_
        refine post_ret_then ?_
        refine post_ret (rs := [.tmp 4]) rfl (List.Perm.refl _) (.cons (.tmp rfl) .nil) (List.nil_sublist _) ?_
        exact ⟨by rw [mixG_eq, show (T.mk h ts).args = ts from rfl, any_at_true k hlt (by rw [h20]; rfl)]; rfl, rfl⟩
      · have h20' : mixB gs (false, ts[k]) = false := by simpa using h20
        rw [h20']
        refine op_v (v_move rfl) rfl ?_
        refine op_want rfl rfl ?_
        refine op_v (v_move rfl) rfl ?_
        first
          | (refine op_want rfl rfl ?_
             refine op_v (v_fieldB 1 Try.underlying47 rfl rfl fz45 rfl) rfl ?_)
          | (refine op_skip rfl rfl (by simp [undef]) rfl ?_)
        refine op_want rfl rfl ?_
        refine op_v (v_loadA ty45 rfl rfl) rfl ?_
        refine op_want rfl rfl ?_
        refine op_v (v_move rfl) rfl ?_
        first
          | (refine op_want rfl rfl ?_
             refine op_v (v_indexA Try.underlying45 sz47 rfl rfl) rfl ?_)
          | (refine op_skip rfl rfl (by simp [undef]) rfl ?_)
        first
          | (refine op_want rfl rfl ?_
             refine op_v (v_loadI0 ty47 (((hat k hlt).mono hI0).mono hI19) rfl rfl rfl) rfl ?_)
          | (refine op_skip rfl rfl (by simp [undef]) rfl ?_)
        refine op_want rfl rfl ?_
        refine op_call pl148 rfl rfl ((ih ts[k] (by omega) (hch k hlt) _ _ _ (hg.mono Imm.leA) ((hsub k hlt).mono Imm.leA))) Parts.none ?_
        rintro _ I27 _ hI27 ⟨rfl, rfl⟩
        by_cases h28 : mixG gs ts[k] = true
        · rw [h28]
          refine op_want rfl rfl ?_
          refine op_v (v_not rfl) rfl ?_
          refine op_v (v_pickf rfl rfl) rfl ?_
          refine ops_nil ?_
          refine post_next ?_
          refine code_cond_t rfl ?_
          refine code_seq ?_
          refine code_region ?_
          refine op_v (v_assign rfl) rfl ?_
          refine ops_nil ?_
          refine post_next ?_
          refine code_ret ?_
          refine post_ret_block ?_
          refine post_ret_then ?_
          refine post_ret_then ?_
          refine post_ret_block ?_
          refine post_ret_then ?_
          refine post_ret (rs := [.tmp 4]) rfl (List.Perm.refl _) (.cons (.tmp rfl) .nil) (List.nil_sublist _) ?_
          exact ⟨by rw [mixG_eq, show (T.mk h ts).args = ts from rfl, any_at_true k hlt (by rw [h28]; simp)]; rfl, rfl⟩
        · have h28' : mixG gs ts[k] = false := by simpa using h28
          rw [h28']
          refine op_want rfl rfl ?_
          refine op_v (v_not rfl) rfl ?_
          refine op_v (v_pickf rfl rfl) rfl ?_
          refine ops_nil ?_
          refine post_next ?_
          refine code_cond_f rfl ?_
          refine code_skip ?_
          refine post_out ?_
          refine post_next ?_
          refine code_region ?_
          refine op_v (v_move rfl) rfl ?_
          refine op_v (v_addb rfl rfl rfl (by omega)) rfl ?_
          refine op_v (v_assign rfl) rfl ?_
          refine ops_nil ?_
          refine post_again (ts.length - (k + 1)) [(0, .slice ga gs.length gc), (3, .pointer (some ⟨b3, 0, none⟩)), (5, .int .i64 ((k + 1 : Nat) : Int))] (by omega) ⟨k + 1, rfl, hlt, rfl, Imm.leA, rfl, ?_⟩ ⟨rfl, rfl, rfl, trivial⟩
          intro i h hi
          rcases Nat.lt_or_ge i k with hik | hik
          · exact hp i h hik
          have hik2 : i = k := by omega
          subst hik2
          rw [h20', h28']; rfl
    · have hge : k = ts.length := by simp at hc0; omega
      refine code_exit ?_
      refine post_exit_then ?_
      refine post_exit_then ?_
      refine post_exit ?_
      refine post_next ?_
      refine code_seq ?_
      refine code_region ?_
      refine op_v (v_assign rfl) rfl ?_
      refine ops_nil ?_
      refine post_next ?_
      refine code_ret ?_
      refine post_ret (rs := [.tmp 4]) rfl (List.Perm.refl _) (.cons (.tmp rfl) .nil) (List.nil_sublist _) ?_
      exact ⟨by rw [mixG_eq, show (T.mk h ts).args = ts from rfl, any_all_false (fun i hi => hp i hi (by omega))]; rfl, rfl⟩
theorem RTerm_does {I : Imm} {vg v : Value} {gs : List Sy} {t : T} (hg : RepG I vg gs) (hv : RepT I v t) (hbig : t.size ≤ 1000000000) :
    Does Try.prog 111 [vg, v] I [] (fun v _ δ' => v = .int .i64 (termG gs t) ∧ δ' = []) := by
  obtain ⟨ga, gc, rfl⟩ := hg.shape
  obtain ⟨a0, c0, rfl, hr0⟩ := hv.shape
  refine Does.intro Try.func111 rfl Try.ntmps111 rfl fun w0 => ?_
  refine code_seq ?_
  refine code_region ?_
  refine o_box rfl rfl rfl (fun b3 => ?_)
  refine op_v (v_assign rfl) rfl ?_
  refine ops_nil ?_
  refine post_next ?_
  refine code_seq ?_
  refine code_seq ?_
  refine code_region ?_
  refine op_v (v_move rfl) rfl ?_
  refine op_call pl64 rfl rfl ((RightR_does (hg.mono Imm.leA))) Parts.none ?_
  rintro _ I7 _ hI7 ⟨rfl, rfl⟩
  by_cases h8 : rightG gs = true
  · rw [h8]
    have hG : chkG gs = 0 := by simp [chkG, h8]
    refine op_v (v_not rfl) rfl ?_
    refine ops_nil ?_
    refine post_next ?_
    refine code_cond_f rfl ?_
    refine code_skip ?_
    refine post_next ?_
    refine code_seq ?_
    refine code_region ?_
    refine op_v (v_loadA ty47 rfl rfl) rfl ?_
    refine op_call pl124 rfl rfl ((RCheck_does (hv.mono Imm.leA) hbig)) Parts.none ?_
    rintro _ I10 _ hI10 ⟨rfl, rfl⟩
    refine op_v (v_assign rfl) rfl ?_
    refine ops_nil ?_
    refine post_next ?_
    refine code_seq ?_
    refine code_seq ?_
    refine code_region ?_
    refine op_v (v_move rfl) rfl ?_
    by_cases h12 : chkT t ≠ 0
    · refine op_v (v_cmptA rfl rfl rfl) rfl ?_
      refine ops_nil ?_
      refine post_next ?_
      refine code_cond_t rfl ?_
      refine code_seq ?_
      refine code_region ?_
      refine op_v (v_move rfl) rfl ?_
      refine op_v (v_assign rfl) rfl ?_
      refine ops_nil ?_
      refine post_next ?_
      refine code_ret ?_
      refine post_ret_then ?_
      refine post_ret (rs := [.tmp 4]) rfl (List.Perm.refl _) (.cons (.tmp rfl) .nil) (List.nil_sublist _) ?_
      exact ⟨by unfold termG; rw [hG, if_neg (by simp), if_pos h12]; rfl, rfl⟩
    · have h0 : chkT t = 0 := by omega
      refine op_v (v_cmpfA rfl rfl rfl) rfl ?_
      refine ops_nil ?_
      refine post_next ?_
      refine code_cond_f rfl ?_
      refine code_skip ?_
      refine post_next ?_
      refine code_seq ?_
      refine code_seq ?_
      refine code_region ?_
      refine op_v (v_move rfl) rfl ?_
      refine op_v (v_loadA ty47 rfl rfl) rfl ?_
      refine op_call pl147 rfl rfl ((known_does _ _ (Nat.le_refl _) h0 _ _ _ (hg.mono Imm.leA) (hv.mono Imm.leA))) Parts.none ?_
      rintro _ I16 _ hI16 ⟨rfl, rfl⟩
      by_cases h17 : unkG gs t = true
      · rw [h17]
        refine op_v (v_not rfl) rfl ?_
        refine ops_nil ?_
        refine post_next ?_
        refine code_cond_t rfl ?_
        refine code_seq ?_
        refine code_region ?_
        refine op_v (v_assign rfl) rfl ?_
        refine ops_nil ?_
        refine post_next ?_
        refine code_ret ?_
        refine post_ret_then ?_
        refine post_ret (rs := [.tmp 4]) rfl (List.Perm.refl _) (.cons (.tmp rfl) .nil) (List.nil_sublist _) ?_
        exact ⟨by unfold termG; rw [hG, h0, if_neg (by simp), if_neg (by simp), if_pos h17]; rfl, rfl⟩
      · have h17' : unkG gs t = false := by simpa using h17
        rw [h17']
        refine op_v (v_not rfl) rfl ?_
        refine ops_nil ?_
        refine post_next ?_
        refine code_cond_f rfl ?_
        refine code_skip ?_
        refine post_next ?_
        refine code_seq ?_
        refine code_seq ?_
        refine code_region ?_
        refine op_v (v_move rfl) rfl ?_
        refine op_v (v_loadA ty47 rfl rfl) rfl ?_
        refine op_call pl148 rfl rfl ((things_does _ _ (Nat.le_refl _) h17' _ _ _ (hg.mono Imm.leA) (hv.mono Imm.leA))) Parts.none ?_
        rintro _ I20 _ hI20 ⟨rfl, rfl⟩
        by_cases h21 : mixG gs t = true
        · rw [h21]
          refine op_v (v_not rfl) rfl ?_
          refine ops_nil ?_
          refine post_next ?_
          refine code_cond_t rfl ?_
          refine code_seq ?_
          refine code_region ?_
          refine op_v (v_assign rfl) rfl ?_
          refine ops_nil ?_
          refine post_next ?_
          refine code_ret ?_
          refine post_ret_then ?_
          refine post_ret (rs := [.tmp 4]) rfl (List.Perm.refl _) (.cons (.tmp rfl) .nil) (List.nil_sublist _) ?_
          exact ⟨by unfold termG; rw [hG, h0, if_neg (by simp), if_neg (by simp), if_neg (by rw [h17']; simp), if_pos h21]; rfl, rfl⟩
        · have h21' : mixG gs t = false := by simpa using h21
          rw [h21']
          refine op_v (v_not rfl) rfl ?_
          refine ops_nil ?_
          refine post_next ?_
          refine code_cond_f rfl ?_
          refine code_skip ?_
          refine post_next ?_
          refine code_seq ?_
          refine code_region ?_
          refine op_v (v_assign rfl) rfl ?_
          refine ops_nil ?_
          refine post_next ?_
          refine code_ret ?_
          refine post_ret (rs := [.tmp 4]) rfl (List.Perm.refl _) (.cons (.tmp rfl) .nil) (List.nil_sublist _) ?_
          exact ⟨by unfold termG; rw [hG, h0, if_neg (by simp), if_neg (by simp), if_neg (by rw [h17']; simp), if_neg (by rw [h21']; simp)]; rfl, rfl⟩
  · have h8' : rightG gs = false := by simpa using h8
    rw [h8']
    have hG : chkG gs = 1 := by simp [chkG, h8']
    refine op_v (v_not rfl) rfl ?_
    refine ops_nil ?_
    refine post_next ?_
    refine code_cond_t rfl ?_
    refine code_seq ?_
    refine code_region ?_
    refine op_v (v_assign rfl) rfl ?_
    refine ops_nil ?_
    refine post_next ?_
    refine code_ret ?_
    refine post_ret_then ?_
    refine post_ret (rs := [.tmp 4]) rfl (List.Perm.refl _) (.cons (.tmp rfl) .nil) (List.nil_sublist _) ?_
    exact ⟨by unfold termG; rw [hG]; rfl, rfl⟩
end Go.Proofs.Ytdbadicpbmndbaa
/- Walks: the example of the chapter on literals; a literal oriented: the statement. -/
set_option linter.unusedVariables false
set_option linter.unusedSimpArgs false
set_option linter.unnecessarySimpa false
/- short -/
namespace Go.Proofs.Ytdbadicpbmndbaa
open Go Lg

end Go.Proofs.Ytdbadicpbmndbaa
/- Walks: the document's answer on whether a literal is right. -/
set_option linter.unusedVariables false
set_option linter.unusedSimpArgs false
set_option linter.unnecessarySimpa false
/- short -/
namespace Go.Proofs.Ytdbadicpbmndbaa
open Go Lg

theorem tru_eq {gs : List Sy} {t : T} (h : OkG gs t) : truG gs t = trL gs t := by
  have q := h.heads (true, t) (by rw [visT_eq]; exact List.mem_cons_self ..)
  simp only at q
  unfold truG trL
  by_cases h0 : 0 ≤ t.head
  · have : t.head < (gs.length : Int) := by omega
    simp [this]
  · simp [h0]
theorem RLCheck_does {I : Imm} {vg va : Value} {gs : List Sy} {x : Li} (hg : RepG I vg gs) (ha : RepL I va x) (h1 : x.l.size ≤ 1000000000) (h2 : x.r.size ≤ 1000000000) :
    Does Try.prog 66 [vg, va] I [] (fun v _ δ' => v = .int .i64 (litG gs x) ∧ δ' = []) := by
  obtain ⟨la, lc, ra, rc, rfl, hl, hr⟩ := ha
  obtain ⟨ga, gc, rfl⟩ := hg.shape
  refine Does.intro Try.func66 rfl Try.ntmps66 rfl fun w0 => ?_
  refine code_seq ?_
  refine code_region ?_
  refine o_box rfl rfl rfl (fun b3 => ?_)
  refine op_v (v_assign rfl) rfl ?_
  refine ops_nil ?_
  refine post_next ?_
  refine code_seq ?_
  refine code_region ?_
  refine op_v (v_move rfl) rfl ?_
  refine op_v (v_fieldB 1 Try.underlying49 rfl rfl fz47 rfl) rfl ?_
  refine op_v (v_loadA ty47 rfl rfl) rfl ?_
  refine op_call pl111 rfl rfl ((RTerm_does (hg.mono Imm.leA) (hl.mono Imm.leA) h1)) Parts.none ?_
  rintro _ I11 _ hI11 ⟨rfl, rfl⟩
  refine op_v (v_assign rfl) rfl ?_
  refine ops_nil ?_
  refine post_next ?_
  refine code_seq ?_
  refine code_seq ?_
  refine code_region ?_
  refine op_v (v_move rfl) rfl ?_
  by_cases e1 : termG gs x.l ≠ 0
  · refine op_v (v_cmptA rfl rfl rfl) rfl ?_
    refine ops_nil ?_
    refine post_next ?_
    refine code_cond_t rfl ?_
    refine code_seq ?_
    refine code_region ?_
    refine op_v (v_move rfl) rfl ?_
    refine op_v (v_assign rfl) rfl ?_
    refine ops_nil ?_
    refine post_next ?_
    refine code_ret ?_
    refine post_ret_then ?_
    refine post_ret (rs := [.tmp 4]) rfl (List.Perm.refl _) (.cons (.tmp rfl) .nil) (List.nil_sublist _) ?_
    exact ⟨by unfold litG; rw [if_pos e1]; rfl, rfl⟩
  · refine op_v (v_cmpfA rfl rfl rfl) rfl ?_
    refine ops_nil ?_
    refine post_next ?_
    refine code_cond_f rfl ?_
    refine code_skip ?_
    refine post_next ?_
    refine code_seq ?_
    refine code_region ?_
    refine op_v (v_move rfl) rfl ?_
    refine op_v (v_fieldB 3 Try.underlying49 rfl rfl fz47 rfl) rfl ?_
    refine op_v (v_loadA ty47 rfl rfl) rfl ?_
    refine op_call pl111 rfl rfl ((RTerm_does (hg.mono Imm.leA) (hr.mono Imm.leA) h2)) Parts.none ?_
    rintro _ I18 _ hI18 ⟨rfl, rfl⟩
    refine op_v (v_assign rfl) rfl ?_
    refine ops_nil ?_
    refine post_next ?_
    refine code_seq ?_
    refine code_seq ?_
    refine code_region ?_
    refine op_v (v_move rfl) rfl ?_
    by_cases e2 : termG gs x.r ≠ 0
    · refine op_v (v_cmptA rfl rfl rfl) rfl ?_
      refine ops_nil ?_
      refine post_next ?_
      refine code_cond_t rfl ?_
      refine code_seq ?_
      refine code_region ?_
      refine op_v (v_move rfl) rfl ?_
      refine op_v (v_assign rfl) rfl ?_
      refine ops_nil ?_
      refine post_next ?_
      refine code_ret ?_
      refine post_ret_then ?_
      refine post_ret (rs := [.tmp 4]) rfl (List.Perm.refl _) (.cons (.tmp rfl) .nil) (List.nil_sublist _) ?_
      exact ⟨by unfold litG; rw [if_neg e1, if_pos e2]; rfl, rfl⟩
    · have o1 := termG_ok.1 (show termG gs x.l = 0 by omega)
      have o2 := termG_ok.1 (show termG gs x.r = 0 by omega)
      refine op_v (v_cmpfA rfl rfl rfl) rfl ?_
      refine ops_nil ?_
      refine post_next ?_
      refine code_cond_f rfl ?_
      refine code_skip ?_
      refine post_next ?_
      refine code_seq ?_
      refine code_region ?_
      refine op_v (v_move rfl) rfl ?_
      refine op_v (v_fieldB 1 Try.underlying49 rfl rfl fz47 rfl) rfl ?_
      refine op_v (v_loadA ty47 rfl rfl) rfl ?_
      refine op_call pl112 rfl rfl ((Truth_does (hg.mono Imm.leA) (hl.mono Imm.leA))) Parts.none ?_
      rintro _ I25 _ hI25 ⟨rfl, rfl⟩
      rw [tru_eq o1]
      refine op_v (v_assign rfl) rfl ?_
      refine ops_nil ?_
      refine post_next ?_
      refine code_seq ?_
      refine code_seq ?_
      refine code_region ?_
      by_cases e3 : trL gs x.l = true
      · rw [e3]
        refine op_v (v_move rfl) rfl ?_
        refine op_v (v_move rfl) rfl ?_
        first
          | (refine op_want rfl rfl ?_
             refine op_v (v_fieldB 3 Try.underlying49 rfl rfl fz47 rfl) rfl ?_)
          | (refine op_skip rfl rfl (by simp [undef]) rfl ?_)
        first
          | (refine op_want rfl rfl ?_
             refine op_v (v_fieldB 0 Try.underlying47 rfl rfl fz3 rfl) rfl ?_)
          | (refine op_skip rfl rfl (by simp [undef]) rfl ?_)
        refine op_want rfl rfl ?_
        refine op_v (v_loadA ty3 rfl rfl) rfl ?_
        by_cases e4 : x.r.head ≠ 0
        · first
            | (refine op_want rfl rfl ?_
               refine op_v (v_cmptA rfl rfl rfl) rfl ?_)
            | (refine op_skip rfl rfl (by simp [undef]) rfl ?_)
          refine op_v (v_pickt rfl rfl) rfl ?_
          refine op_v (v_move rfl) rfl ?_
          refine op_skip rfl rfl (by simp [undef]) rfl ?_
          refine op_skip rfl rfl (by simp [undef]) rfl ?_
          refine op_skip rfl rfl (by simp [undef]) rfl ?_
          refine op_skip rfl rfl (by simp [undef]) rfl ?_
          refine op_skip rfl rfl (by simp [undef]) rfl ?_
          refine op_skip rfl rfl (by simp [undef]) rfl ?_
          refine op_skip rfl rfl (by simp [undef]) rfl ?_
          refine op_skip rfl rfl (by simp [undef]) rfl ?_
          refine op_v (v_pickt rfl rfl) rfl ?_
          refine ops_nil ?_
          refine post_next ?_
          refine code_cond_t rfl ?_
          refine code_seq ?_
          refine code_region ?_
          refine op_v (v_assign rfl) rfl ?_
          refine ops_nil ?_
          refine post_next ?_
          refine code_ret ?_
          refine post_ret_then ?_
          refine post_ret (rs := [.tmp 4]) rfl (List.Perm.refl _) (.cons (.tmp rfl) .nil) (List.nil_sublist _) ?_
          exact ⟨by unfold litG; rw [if_neg e1, if_neg e2, if_pos (by simp [sortL, e3, e4])]; rfl, rfl⟩
        · first
            | (refine op_want rfl rfl ?_
               refine op_v (v_cmpfA rfl rfl rfl) rfl ?_)
            | (refine op_skip rfl rfl (by simp [undef]) rfl ?_)
          refine op_v (v_pickt rfl rfl) rfl ?_
          refine op_v (v_move rfl) rfl ?_
          refine op_want rfl rfl ?_
          refine op_v (v_move rfl) rfl ?_
          refine op_want rfl rfl ?_
          refine op_v (v_not rfl) rfl ?_
          refine op_want rfl rfl ?_
          refine op_v (v_move rfl) rfl ?_
          refine op_skip rfl rfl (by simp [undef]) rfl ?_
          refine op_skip rfl rfl (by simp [undef]) rfl ?_
          refine op_skip rfl rfl (by simp [undef]) rfl ?_
          refine op_skip rfl rfl (by simp [undef]) rfl ?_
          first
            | (refine op_want rfl rfl ?_
               refine op_v (v_pickf rfl rfl) rfl ?_)
            | (refine op_skip rfl rfl (by simp [undef]) rfl ?_)
          refine op_v (v_pickf rfl rfl) rfl ?_
          refine ops_nil ?_
          refine post_next ?_
          refine code_cond_f rfl ?_
          refine code_skip ?_
          refine post_next ?_
          refine code_seq ?_
          refine code_region ?_
          refine op_v (v_assign rfl) rfl ?_
          refine ops_nil ?_
          refine post_next ?_
          refine code_ret ?_
          refine post_ret (rs := [.tmp 4]) rfl (List.Perm.refl _) (.cons (.tmp rfl) .nil) (List.nil_sublist _) ?_
          exact ⟨by unfold litG; rw [if_neg e1, if_neg e2, if_neg (by simp [sortL, e3]; omega)]; rfl, rfl⟩
      · have e3' : trL gs x.l = false := by simpa using e3
        rw [e3']
        refine op_v (v_move rfl) rfl ?_
        refine op_v (v_move rfl) rfl ?_
        refine op_skip rfl rfl (by simp [undef]) rfl ?_
        refine op_skip rfl rfl (by simp [undef]) rfl ?_
        refine op_skip rfl rfl (by simp [undef]) rfl ?_
        refine op_skip rfl rfl (by simp [undef]) rfl ?_
        refine op_v (v_pickf rfl rfl) rfl ?_
        refine op_v (v_move rfl) rfl ?_
        refine op_want rfl rfl ?_
        refine op_v (v_move rfl) rfl ?_
        refine op_want rfl rfl ?_
        refine op_v (v_not rfl) rfl ?_
        refine op_want rfl rfl ?_
        refine op_v (v_move rfl) rfl ?_
        refine op_want rfl rfl ?_
        refine op_v (v_move rfl) rfl ?_
        first
          | (refine op_want rfl rfl ?_
             refine op_v (v_fieldB 3 Try.underlying49 rfl rfl fz47 rfl) rfl ?_)
          | (refine op_skip rfl rfl (by simp [undef]) rfl ?_)
        refine op_want rfl rfl ?_
        refine op_v (v_loadA ty47 rfl rfl) rfl ?_
        refine op_want rfl rfl ?_
        refine op_call pl112 rfl rfl ((Truth_does (hg.mono Imm.leA) (hr.mono Imm.leA))) Parts.none ?_
        rintro _ I40 _ hI40 ⟨rfl, rfl⟩
        rw [tru_eq o2]
        by_cases e5 : trL gs x.r = true
        · rw [e5]
          first
            | (refine op_want rfl rfl ?_
               refine op_v (v_pickt rfl rfl) rfl ?_)
            | (refine op_skip rfl rfl (by simp [undef]) rfl ?_)
          refine op_v (v_pickf rfl rfl) rfl ?_
          refine ops_nil ?_
          refine post_next ?_
          refine code_cond_t rfl ?_
          refine code_seq ?_
          refine code_region ?_
          refine op_v (v_assign rfl) rfl ?_
          refine ops_nil ?_
          refine post_next ?_
          refine code_ret ?_
          refine post_ret_then ?_
          refine post_ret (rs := [.tmp 4]) rfl (List.Perm.refl _) (.cons (.tmp rfl) .nil) (List.nil_sublist _) ?_
          exact ⟨by unfold litG; rw [if_neg e1, if_neg e2, if_pos (by simp [sortL, e3', e5])]; rfl, rfl⟩
        · have e5' : trL gs x.r = false := by simpa using e5
          rw [e5']
          first
            | (refine op_want rfl rfl ?_
               refine op_v (v_pickt rfl rfl) rfl ?_)
            | (refine op_skip rfl rfl (by simp [undef]) rfl ?_)
          refine op_v (v_pickf rfl rfl) rfl ?_
          refine ops_nil ?_
          refine post_next ?_
          refine code_cond_f rfl ?_
          refine code_skip ?_
          refine post_next ?_
          refine code_seq ?_
          refine code_region ?_
          refine op_v (v_assign rfl) rfl ?_
          refine ops_nil ?_
          refine post_next ?_
          refine code_ret ?_
          refine post_ret (rs := [.tmp 4]) rfl (List.Perm.refl _) (.cons (.tmp rfl) .nil) (List.nil_sublist _) ?_
          exact ⟨by unfold litG; rw [if_neg e1, if_neg e2, if_neg (by simp [sortL, e3', e5'])]; rfl, rfl⟩
end Go.Proofs.Ytdbadicpbmndbaa
/- Walks: terms put into a literal, by the program. -/
set_option linter.unusedVariables false
set_option linter.unusedSimpArgs false
set_option linter.unnecessarySimpa false
/- short -/
namespace Go.Proofs.Ytdbadicpbmndbaa
open Go Lg

/-- what Apply answers, exactly -/
def OutE (bs : List Bi) (t : T) (e : Int) (u : T) : Prop := ((chkB bs ∧ chkT t = 0) ∧ e = chkT (sbT bs t) ∧ u = (if chkT (sbT bs t) = 0 then sbT bs t else zeroT)) ∨ (¬ (chkB bs ∧ chkT t = 0) ∧ e = 1 ∧ u = zeroT)
theorem OutE.eq {bs : List Bi} {t : T} {e f : Int} {u w : T} (h : OutE bs t e u) (k : OutE bs t f w) : e = f ∧ u = w := by
  rcases h with ⟨h1, h2, h3⟩ | ⟨h1, h2, h3⟩ <;> rcases k with ⟨k1, k2, k3⟩ | ⟨k1, k2, k3⟩
  · exact ⟨by rw [h2, k2], by rw [h3, k3]⟩
  · exact absurd h1 k1
  · exact absurd k1 h1
  · exact ⟨by rw [h2, k2], by rw [h3, k3]⟩
theorem OutE.size {bs : List Bi} {t : T} {e : Int} {u : T} (h : OutE bs t e u) : u.size ≤ 400 := by
  rcases h with ⟨h1, h2, h3⟩ | ⟨h1, h2, h3⟩
  · subst h3; split
    · exact chkT_size (by assumption)
    · exact (by decide : zeroT.size ≤ 400)
  · subst h3; exact (by decide : zeroT.size ≤ 400)
theorem ApplyE_does {I : Imm} {vs v : Value} {bs : List Bi} {t : T} (hs : RepB I vs bs) (hv : RepT I v t) (hbs : ∀ b ∈ bs, b.2.size ≤ 500) (ht : t.size ≤ 500) :
    Does Try.prog 120 [vs, v] I [] (fun v I' δ' => (∃ e u r, v = .tuple #[r, .int .i64 e] ∧ RepT I' r u ∧ OutE bs t e u) ∧ δ' = []) := by
  obtain ⟨a0, c0, rfl, hr0⟩ := hv.shape
  obtain ⟨sa, sc, rfl⟩ := hs.shape
  have hsz : (sbT bs t).size ≤ 1000000000 := by have := sbT_size (m := 500) (by omega) hbs t; omega
  refine Does.intro Try.func120 rfl Try.ntmps120 rfl fun w0 => ?_
  refine code_seq ?_
  refine code_region ?_
  refine o_box rfl rfl rfl (fun b3 => ?_)
  refine o_alloc z47 rfl rfl (fun b4 => ?_)
  refine op_v (v_assign rfl) rfl ?_
  refine ops_nil ?_
  refine post_next ?_
  refine code_seq ?_
  refine code_seq ?_
  refine code_region ?_
  refine op_v (v_move rfl) rfl ?_
  refine op_call pl154 rfl rfl ((SCheck_does hs (fun b hb => by have := hbs b hb; omega))) Parts.none ?_
  rintro v7 I7 _ hI7 ⟨⟨e7, rfl, he7⟩, rfl⟩
  by_cases h8 : e7 ≠ 0
  · refine op_v (v_cmptA rfl rfl rfl) rfl ?_
    refine op_v (v_move rfl) rfl ?_
    refine op_skip rfl rfl (by simp [undef]) rfl ?_
    refine op_skip rfl rfl (by simp [undef]) rfl ?_
    refine op_skip rfl rfl (by simp [undef]) rfl ?_
    refine op_v (v_pickt rfl rfl) rfl ?_
    refine ops_nil ?_
    refine post_next ?_
    refine code_cond_t rfl ?_
    refine code_seq ?_
    refine code_region ?_
    refine op_v (v_build bl47 rfl rfl) rfl ?_
    refine o_store ty47 rfl rfl rfl rfl rfl (by repeat (first | exact Swap.here | apply Swap.there)) rfl ?_
    refine op_v (v_assign rfl) rfl ?_
    refine ops_nil ?_
    refine post_next ?_
    refine code_ret ?_
    refine post_ret_then ?_
    refine post_ret (rs := [.cell 4 47, .tmp 5]) rfl (List.Perm.refl _) (.cons (.cell rfl ty47 (by repeat (first | exact Has.here | apply Has.there)) rfl) (.cons (.tmp rfl) .nil)) (List.nil_sublist _) ?_
    exact ⟨⟨1, zeroT, _, rfl, zeroT_rep _, .inr ⟨fun hh => by rcases he7 with h | h; omega; exact h.2 hh.1, rfl, rfl⟩⟩, rfl⟩
  · refine op_v (v_cmpfA rfl rfl rfl) rfl ?_
    refine op_v (v_move rfl) rfl ?_
    refine op_want rfl rfl ?_
    refine op_v (v_loadA ty47 rfl rfl) rfl ?_
    refine op_want rfl rfl ?_
    refine op_call pl105 rfl rfl ((TCheck_does (hv.mono Imm.leA) (by omega))) Parts.none ?_
    rintro v11 I11 _ hI11 ⟨rfl, rfl⟩
    by_cases h12 : chkT t ≠ 0
    · first
        | (refine op_want rfl rfl ?_
           refine op_v (v_cmptA rfl rfl rfl) rfl ?_)
        | (refine op_skip rfl rfl (by simp [undef]) rfl ?_)
      refine op_v (v_pickf rfl rfl) rfl ?_
      refine ops_nil ?_
      refine post_next ?_
      refine code_cond_t rfl ?_
      refine code_seq ?_
      refine code_region ?_
      refine op_v (v_build bl47 rfl rfl) rfl ?_
      refine o_store ty47 rfl rfl rfl rfl rfl (by repeat (first | exact Swap.here | apply Swap.there)) rfl ?_
      refine op_v (v_assign rfl) rfl ?_
      refine ops_nil ?_
      refine post_next ?_
      refine code_ret ?_
      refine post_ret_then ?_
      refine post_ret (rs := [.cell 4 47, .tmp 5]) rfl (List.Perm.refl _) (.cons (.cell rfl ty47 (by repeat (first | exact Has.here | apply Has.there)) rfl) (.cons (.tmp rfl) .nil)) (List.nil_sublist _) ?_
      exact ⟨⟨1, zeroT, _, rfl, zeroT_rep _, .inr ⟨fun hh => h12 hh.2, rfl, rfl⟩⟩, rfl⟩
    · first
        | (refine op_want rfl rfl ?_
           refine op_v (v_cmpfA rfl rfl rfl) rfl ?_)
        | (refine op_skip rfl rfl (by simp [undef]) rfl ?_)
      refine op_v (v_pickf rfl rfl) rfl ?_
      refine ops_nil ?_
      refine post_next ?_
      refine code_cond_f rfl ?_
      refine code_skip ?_
      refine post_next ?_
      refine code_seq ?_
      refine code_draw (.fl 0 (.fl 1 (.ef 2 (.fl 3 (.ef 4 (.ef 5 (.fl 6 (.fl 7 (.ef 8 (.ef 9 .done)))))))))) (fun _ => _) mixed (by kernel_rfl) (by kernel_rfl) (fun _ => (List.Sublist.refl _)) ?_
      refine e_fl rfl rfl (fun hs_ => PF.mk rfl (v_loadA ty47 rfl rfl) hs_) ?_
      refine e_fl rfl rfl (fun hs_ => PF.mk rfl (v_move rfl) hs_) ?_
      refine e_eff rfl (by intro cs b hc; cases hc) (by intro c hc; cases hc) ?_
      refine op_call pl155 rfl rfl ((open_does (hs.mono Imm.leA))) Parts.none ?_
      rintro v17 I17 _ hI17 ⟨b17, xs17, rfl, rfl, hM⟩
      refine ops_nil ?_
      refine e_next rfl side_allA ?_
      refine e_fl rfl rfl (fun hs_ => PF.mk rfl (v_makeFunc rfl rfl) hs_) ?_
      refine e_eff rfl (by intro cs b hc; cases hc) (by intro c hc; cases hc) ?_
      refine op_call pl144 rfl rfl ((rebuild_does (I0 := I17) (fun J v u hJ hu => FDoes.ofFirst (firsts := [_]) pl156 (of_does hu (hM.mono hJ))) t.size t (Nat.le_refl _) _ _ (Imm.le_refl _) (hv.mono Imm.leA))) (Parts.one Del.here) ?_
      rintro v19 I19 _ hI19 ⟨hv19, rfl⟩
      change RepT I19 v19 (sbT bs t) at hv19
      refine ops_nil ?_
      refine e_next rfl (side_nil (by kernel_rfl)) ?_
      refine e_eff rfl (by intro cs b hc; cases hc) (by intro c hc; cases hc) ?_
      refine op_call pl143 rfl rfl ((end_does hv19 hsz)) Parts.none ?_
      rintro v20 I20 _ hI20 ⟨⟨u20, rfl, hv20⟩, rfl⟩
      obtain ⟨a20, c20, rfl, _⟩ := hv20.shape
      refine ops_nil ?_
      refine e_next rfl (side_nil (by kernel_rfl)) ?_
      refine e_fl rfl rfl (fun hs_ => PF.mk rfl (v_extract rfl rfl) hs_) ?_
      refine e_fl rfl rfl (fun hs_ => PF.mk rfl (v_extract rfl rfl) hs_) ?_
      refine e_eff rfl (by intro cs b hc; cases hc) (by intro c hc; cases hc) ?_
      refine o_store ty47 rfl rfl rfl rfl rfl (by repeat (first | exact Swap.here | apply Swap.there)) rfl ?_
      refine ops_nil ?_
      refine e_next_ (side_nil (by kernel_rfl)) ?_
      refine e_eff rfl (by intro cs b hc; cases hc) (by intro c hc; cases hc) ?_
      refine op_v (v_assign rfl) rfl ?_
      refine ops_nil ?_
      refine e_next rfl (side_nil (by kernel_rfl)) ?_
      refine e_done ?_
      refine post_next ?_
      refine code_ret ?_
      refine post_ret (rs := [.cell 4 47, .tmp 5]) rfl (List.Perm.refl _) (.cons (.cell rfl ty47 (by repeat (first | exact Has.here | apply Has.there)) rfl) (.cons (.tmp rfl) .nil)) (List.nil_sublist _) ?_
      have he0 : e7 = 0 := by omega
      have hcb : chkB bs := by rcases he7 with h | h; exact h.2; omega
      exact ⟨⟨chkT (sbT bs t), _, _, rfl, hv20, .inl ⟨⟨hcb, by omega⟩, rfl, rfl⟩⟩, rfl⟩
def OutL (bs : List Bi) (x : Li) (e : Int) (y : Li) : Prop := ∃ e1 u1, OutE bs x.l e1 u1 ∧ ((e1 ≠ 0 ∧ e = e1 ∧ y = zeroLi) ∨ (e1 = 0 ∧ ∃ e2 u2, OutE bs x.r e2 u2 ∧ ((e2 ≠ 0 ∧ e = e2 ∧ y = zeroLi) ∨ (e2 = 0 ∧ e = 0 ∧ y = ⟨x.neg, u1, u2⟩))))
theorem OutL.eq {bs : List Bi} {x y z : Li} {e f : Int} (h : OutL bs x e y) (k : OutL bs x f z) : e = f ∧ y = z := by
  obtain ⟨e1, u1, h1, h⟩ := h
  obtain ⟨f1, w1, k1, k⟩ := k
  obtain ⟨rfl, rfl⟩ := h1.eq k1
  rcases h with ⟨h2, rfl, rfl⟩ | ⟨h2, e2, u2, h3, h⟩ <;> rcases k with ⟨k2, rfl, rfl⟩ | ⟨k2, f2, w2, k3, k⟩
  · exact ⟨rfl, rfl⟩
  · exact absurd k2 h2
  · exact absurd h2 k2
  · obtain ⟨rfl, rfl⟩ := h3.eq k3
    rcases h with ⟨h4, rfl, rfl⟩ | ⟨h4, rfl, rfl⟩ <;> rcases k with ⟨k4, rfl, rfl⟩ | ⟨k4, rfl, rfl⟩
    · exact ⟨rfl, rfl⟩
    · exact absurd k4 h4
    · exact absurd h4 k4
    · exact ⟨rfl, rfl⟩
theorem OutL.size {bs : List Bi} {x y : Li} {e : Int} (h : OutL bs x e y) : y.l.size ≤ 1000000000 ∧ y.r.size ≤ 1000000000 := by
  have hz : zeroT.size ≤ 400 := by decide
  obtain ⟨e1, u1, h1, ⟨_, _, rfl⟩ | ⟨_, e2, u2, h3, ⟨_, _, rfl⟩ | ⟨_, _, rfl⟩⟩⟩ := h
  · exact ⟨Nat.le_trans hz (by omega), Nat.le_trans hz (by omega)⟩
  · exact ⟨Nat.le_trans hz (by omega), Nat.le_trans hz (by omega)⟩
  · have := h1.size; have := h3.size; exact ⟨by show u1.size ≤ _; omega, by show u2.size ≤ _; omega⟩
theorem LApply_does {I : Imm} {vs va : Value} {bs : List Bi} {x : Li} (hs : RepB I vs bs) (ha : RepL I va x) (hbs : ∀ b ∈ bs, b.2.size ≤ 500) (h1 : x.l.size ≤ 500) (h2 : x.r.size ≤ 500) :
    Does Try.prog 83 [vs, va] I [] (fun v I' δ' => (∃ e y r, v = .tuple #[r, .int .i64 e] ∧ RepL I' r y ∧ OutL bs x e y) ∧ δ' = []) := by
  obtain ⟨la, lc, ra, rc, rfl, hl, hr⟩ := ha
  obtain ⟨sa, sc, rfl⟩ := hs.shape
  refine Does.intro Try.func83 rfl Try.ntmps83 rfl fun w0 => ?_
  refine code_seq ?_
  refine code_region ?_
  refine o_box rfl rfl rfl (fun b3 => ?_)
  refine o_alloc z49 rfl rfl (fun b4 => ?_)
  refine op_v (v_assign rfl) rfl ?_
  refine ops_nil ?_
  refine post_next ?_
  refine code_seq ?_
  refine code_region ?_
  refine op_v (v_move rfl) rfl ?_
  refine op_v (v_fieldB 1 Try.underlying49 rfl rfl fz47 rfl) rfl ?_
  refine op_v (v_loadA ty47 rfl rfl) rfl ?_
  refine op_call pl120 rfl rfl ((ApplyE_does (hs.mono Imm.leA) (hl.mono Imm.leA) hbs h1)) Parts.none ?_
  rintro v13 I13 _ hI13 ⟨⟨e1, u1, r1, rfl, hr1, ho1⟩, rfl⟩
  obtain ⟨ua, uc, rfl, _⟩ := hr1.shape
  refine op_v (v_move rfl) rfl ?_
  refine op_v (v_extract rfl rfl) rfl ?_
  refine op_v (v_extract rfl rfl) rfl ?_
  refine o_alloc z47 rfl rfl (fun b6 => ?_)
  refine o_store ty47 rfl rfl rfl rfl rfl (by repeat (first | exact Swap.here | apply Swap.there)) rfl ?_
  refine op_v (v_assign rfl) rfl ?_
  refine ops_nil ?_
  refine post_next ?_
  refine code_seq ?_
  refine code_seq ?_
  refine code_region ?_
  refine op_v (v_move rfl) rfl ?_
  by_cases q1 : e1 ≠ 0
  · refine op_v (v_cmptA rfl rfl rfl) rfl ?_
    refine ops_nil ?_
    refine post_next ?_
    refine code_cond_t rfl ?_
    refine code_seq ?_
    refine code_region ?_
    refine op_v (v_build bl49 rfl rfl) rfl ?_
    refine op_v (v_move rfl) rfl ?_
    refine o_store ty49 rfl rfl rfl rfl rfl (by repeat (first | exact Swap.here | apply Swap.there)) rfl ?_
    refine op_v (v_assign rfl) rfl ?_
    refine ops_nil ?_
    refine post_next ?_
    refine code_ret ?_
    refine post_ret_then ?_
    refine post_ret (rs := [.cell 4 49, .tmp 5]) rfl (List.Perm.refl _) (.cons (.cell rfl ty49 (by repeat (first | exact Has.here | apply Has.there)) rfl) (.cons (.tmp rfl) .nil)) (List.nil_sublist _) ?_
    exact ⟨⟨e1, zeroLi, _, rfl, ⟨none, 0, none, 0, rfl, zeroT_rep _, zeroT_rep _⟩, e1, u1, ho1, .inl ⟨q1, rfl, rfl⟩⟩, rfl⟩
  · refine op_v (v_cmpfA rfl rfl rfl) rfl ?_
    refine ops_nil ?_
    refine post_next ?_
    refine code_cond_f rfl ?_
    refine code_skip ?_
    refine post_next ?_
    refine code_seq ?_
    refine code_region ?_
    refine op_v (v_move rfl) rfl ?_
    refine op_v (v_fieldB 3 Try.underlying49 rfl rfl fz47 rfl) rfl ?_
    refine op_v (v_loadA ty47 rfl rfl) rfl ?_
    refine op_call pl120 rfl rfl ((ApplyE_does (hs.mono Imm.leA) (hr.mono Imm.leA) hbs h2)) Parts.none ?_
    rintro v24 I24 _ hI24 ⟨⟨e2, u2, r2, rfl, hr2, ho2⟩, rfl⟩
    obtain ⟨wa, wc, rfl, _⟩ := hr2.shape
    refine op_v (v_move rfl) rfl ?_
    refine op_v (v_extract rfl rfl) rfl ?_
    refine op_v (v_extract rfl rfl) rfl ?_
    refine o_alloc z47 rfl rfl (fun b8 => ?_)
    refine o_store ty47 rfl rfl rfl rfl rfl (by repeat (first | exact Swap.here | apply Swap.there)) rfl ?_
    refine op_v (v_assign rfl) rfl ?_
    refine ops_nil ?_
    refine post_next ?_
    refine code_seq ?_
    refine code_seq ?_
    refine code_region ?_
    refine op_v (v_move rfl) rfl ?_
    by_cases q2 : e2 ≠ 0
    · refine op_v (v_cmptA rfl rfl rfl) rfl ?_
      refine ops_nil ?_
      refine post_next ?_
      refine code_cond_t rfl ?_
      refine code_seq ?_
      refine code_region ?_
      refine op_v (v_build bl49 rfl rfl) rfl ?_
      refine op_v (v_move rfl) rfl ?_
      refine o_store ty49 rfl rfl rfl rfl rfl (by repeat (first | exact Swap.here | apply Swap.there)) rfl ?_
      refine op_v (v_assign rfl) rfl ?_
      refine ops_nil ?_
      refine post_next ?_
      refine code_ret ?_
      refine post_ret_then ?_
      refine post_ret (rs := [.cell 4 49, .tmp 5]) rfl (List.Perm.refl _) (.cons (.cell rfl ty49 (by repeat (first | exact Has.here | apply Has.there)) rfl) (.cons (.tmp rfl) .nil)) (List.nil_sublist _) ?_
      exact ⟨⟨e2, zeroLi, _, rfl, ⟨none, 0, none, 0, rfl, zeroT_rep _, zeroT_rep _⟩, e1, u1, ho1, .inr ⟨by omega, e2, u2, ho2, .inl ⟨q2, rfl, rfl⟩⟩⟩, rfl⟩
    · refine op_v (v_cmpfA rfl rfl rfl) rfl ?_
      refine ops_nil ?_
      refine post_next ?_
      refine code_cond_f rfl ?_
      refine code_skip ?_
      refine post_next ?_
      refine code_seq ?_
      refine code_region ?_
      refine op_v (v_fieldB 0 Try.underlying49 rfl rfl fz4 rfl) rfl ?_
      refine op_v (v_loadA ty4 rfl rfl) rfl ?_
      refine op_v (v_loadA ty47 rfl rfl) rfl ?_
      refine op_v (v_loadA ty47 rfl rfl) rfl ?_
      refine op_v (v_build bl49 rfl rfl) rfl ?_
      refine o_store ty49 rfl rfl rfl rfl rfl (by repeat (first | exact Swap.here | apply Swap.there)) rfl ?_
      refine op_v (v_assign rfl) rfl ?_
      refine ops_nil ?_
      refine post_next ?_
      refine code_ret ?_
      refine post_ret (rs := [.cell 4 49, .tmp 5]) rfl (List.Perm.refl _) (.cons (.cell rfl ty49 (by repeat (first | exact Has.here | apply Has.there)) rfl) (.cons (.tmp rfl) .nil)) (List.nil_sublist _) ?_
      exact ⟨⟨0, ⟨x.neg, u1, u2⟩, _, rfl, ⟨ua, uc, wa, wc, rfl, hr1.mono Imm.leA, hr2.mono Imm.leA⟩, e1, u1, ho1, .inr ⟨by omega, e2, u2, ho2, .inr ⟨by omega, rfl, rfl⟩⟩⟩, rfl⟩
end Go.Proofs.Ytdbadicpbmndbaa
/- Walks: terms put into a literal, by the document; the statement on literals. -/
set_option linter.unusedVariables false
set_option linter.unusedSimpArgs false
set_option linter.unnecessarySimpa false
/- short -/
namespace Go.Proofs.Ytdbadicpbmndbaa
open Go Lg

theorem RRight1_does {I : Imm} {v : Value} {t : T} (hv : RepT I v t) (hbig : t.size ≤ 1000000000) :
    Does Try.prog 87 [v] I [] (fun v I' δ' => v = .bool (decide (chkT t = 0)) ∧ δ' = []) := by
  obtain ⟨a0, c0, rfl, hr0⟩ := hv.shape
  refine Does.intro Try.func87 rfl Try.ntmps87 rfl fun w0 => ?_
  refine code_seq ?_
  refine code_region ?_
  refine o_box rfl rfl rfl (fun b1 => ?_)
  refine op_v (v_assign rfl) rfl ?_
  refine ops_nil ?_
  refine post_next ?_
  refine code_seq ?_
  refine code_region ?_
  refine op_v (v_loadA ty47 rfl rfl) rfl ?_
  refine op_call pl124 rfl rfl ((RCheck_does (hv.mono Imm.leA) hbig)) Parts.none ?_
  rintro _ I4 _ hI4 ⟨rfl, rfl⟩
  refine op_v (v_cmp (z := decide (chkT t = 0)) rfl rfl rfl) rfl ?_
  refine op_v (v_assign rfl) rfl ?_
  refine ops_nil ?_
  refine post_next ?_
  refine code_ret ?_
  refine post_ret (rs := [.tmp 2]) rfl (List.Perm.refl _) (.cons (.tmp rfl) .nil) (List.nil_sublist _) ?_
  exact ⟨rfl, rfl⟩
end Go.Proofs.Ytdbadicpbmndbaa
/- Walks: the document's answers: can literals be as some of a clause that are free. -/
set_option linter.unusedVariables false
set_option linter.unusedSimpArgs false
set_option linter.unnecessarySimpa false
/- short -/
namespace Go.Proofs.Ytdbadicpbmndbaa
open Go Lg

theorem Lg.CodeJ.freezeRow {C : Ctx} {Q : Exit → Act → World → Prop} {σ : Env} {ds : List Nat} {I : Imm} {δ : List Ent} {cd : Code} {v : Value} {e : TypeId} {size n : Nat} {xs : List Value} {δ' : List Ent} (hd : Del δ (.row v e size n xs) δ')
    (h : ∀ I' ad cap, I.le I' → v = .slice ad n cap → n ≤ cap → xs.length = n * size → Cells I' ad xs → CodeJ C cd Q σ ds I' δ') : CodeJ C cd Q σ ds I δ := by
  intro a w he hs ht
  have h1 := hs.perm hd.perm
  have t1 := ht.permR hd.perm
  obtain ⟨hl, hx⟩ : w.ownsRow 0 e size v n xs := h1.ents _ (List.mem_cons_self ..)
  rcases hx with ⟨rfl, rfl⟩ | ⟨g, cap, cur, rfl, _, hh, hnc, _, hcs, htk⟩
  · obtain ⟨s2, t2⟩ := h1.drop
    have hnil : xs = [] := List.eq_nil_of_length_eq_zero (by omega)
    subst hnil
    exact h I none 0 (Imm.le_refl _) rfl (Nat.le_refl _) hl (fun j v hj => by simp at hj) a w he s2 (t1.trans t2)
  · obtain ⟨s2, t2, hle⟩ := h1.freeze (b := g) rfl hh
    refine h (I.ins g _) (some ⟨g, 0, none⟩) cap hle rfl hnc hl (fun j v hj => ?_) a w he s2 (t1.trans t2)
    have hadd : (⟨g, 0, none⟩ : Addr).add j = ⟨g, j, none⟩ := by unfold Addr.add; split <;> simp_all
    have hjn : j < n * size := by rw [← hl]; exact (List.getElem?_eq_some_iff.1 hj).1
    rw [← htk] at hj
    rw [List.getElem?_take_of_lt hjn] at hj
    simp only [Option.map_some, Imm.cellO, Imm.cell, hadd, Imm.ins, if_true]
    simpa using hj
theorem RAllT_does {I : Imm} {v : Value} {ts : List T} (hv : RepS I v ts) (hbig : ∀ t ∈ ts, t.size ≤ 1000000000) :
    Does Try.prog 38 [v] I [] (fun v I' δ' => v = .bool (!ts.any badT) ∧ δ' = []) := by
  obtain ⟨ad, c, ss, xs, rfl, hc, hr, hb, he⟩ := hv.rowP
  refine Does.intro Try.func38 rfl Try.ntmps38 rfl fun w0 => ?_
  refine code_seq ?_
  refine code_region ?_
  refine op_v (v_assign rfl) rfl ?_
  refine ops_nil ?_
  refine post_next ?_
  refine code_seq ?_
  refine code_seq ?_
  refine code_region ?_
  refine op_v (v_assign rfl) rfl ?_
  refine ops_nil ?_
  refine post_next ?_
  refine code_block ?_
  refine code_loop (fun m σ' I' δ' => ∃ k : Nat, m = ts.length - k ∧ k ≤ ts.length ∧ σ' = [(0, .slice ad ts.length c), (3, .int .i64 k)] ∧ I.le I' ∧ δ' = [] ∧ ∀ j (h : j < ts.length), j < k → badT ts[j] = false) ts.length [(0, .slice ad ts.length c), (3, .int .i64 (0 : Nat))] ⟨0, rfl, Nat.zero_le _, rfl, Imm.le_refl _, rfl, fun j _ h => by omega⟩ ⟨rfl, rfl, trivial⟩ ?_
  rintro m _ I0 _ ⟨k, rfl, hk, rfl, hI0, rfl, hp⟩
  refine code_seq ?_
  refine code_seq ?_
  refine code_region ?_
  refine op_v (v_move rfl) rfl ?_
  refine op_v (v_move rfl) rfl ?_
  refine op_v (v_len Try.underlying45 rfl) rfl ?_
  refine op_v (v_cmp rfl rfl rfl) rfl ?_
  refine ops_nil ?_
  refine post_next ?_
  refine code_cond rfl (fun hc0 => ?_) (fun hc0 => ?_)
  · have hlt : k < ts.length := by simpa using hc0
    obtain ⟨hat, hrt⟩ := he k hlt
    have hs1 := hat.isSome
    refine code_skip ?_
    refine post_next ?_
    refine code_seq ?_
    refine code_block ?_
    refine code_seq ?_
    refine code_region ?_
    refine op_v (v_move rfl) rfl ?_
    refine op_v (v_move rfl) rfl ?_
    refine op_v (v_indexA Try.underlying45 sz47 rfl rfl) rfl ?_
    refine op_v (v_loadI0 ty47 (hat.mono hI0) rfl rfl rfl) rfl ?_
    refine op_call pl87 rfl rfl ((RRight1_does (hrt.mono hI0) (hbig _ (List.getElem_mem _)))) Parts.none ?_
    rintro v14 I14 _ hI14 ⟨rfl, rfl⟩
    by_cases h15 : chkT ts[k] = 0
    · rw [show decide (chkT ts[k] = 0) = true by simpa using h15]
      have hbk : badT ts[k] = false := by unfold badT; simp [h15]
      refine op_v (v_not rfl) rfl ?_
      refine ops_nil ?_
      refine post_next ?_
      refine code_cond_f rfl ?_
      refine code_skip ?_
      refine post_out ?_
      refine post_next ?_
      refine code_region ?_
      refine op_v (v_move rfl) rfl ?_
      refine op_v (v_addb rfl rfl rfl (by omega)) rfl ?_
      refine op_v (v_assign rfl) rfl ?_
      refine ops_nil ?_
      refine post_again (ts.length - (k + 1)) [(0, .slice ad ts.length c), (3, .int .i64 (k + 1 : Nat))] (by omega) ⟨k + 1, rfl, hlt, rfl, Imm.leA, rfl, fun j h hj => ?_⟩ ⟨rfl, rfl, trivial⟩
      rcases Nat.lt_or_ge j k with q | q
      · exact hp j h q
      · have e : j = k := by omega
        subst e; exact hbk
    · rw [show decide (chkT ts[k] = 0) = false by simpa using h15]
      have hbk : badT ts[k] = true := by unfold badT; simp [h15]
      refine op_v (v_not rfl) rfl ?_
      refine ops_nil ?_
      refine post_next ?_
      refine code_cond_t rfl ?_
      refine code_seq ?_
      refine code_region ?_
      refine op_v (v_assign rfl) rfl ?_
      refine ops_nil ?_
      refine post_next ?_
      refine code_ret ?_
      refine post_ret_block ?_
      refine post_ret_then ?_
      refine post_ret_then ?_
      refine post_ret_block ?_
      refine post_ret_then ?_
      refine post_ret (rs := [.tmp 2]) rfl (List.Perm.refl _) (.cons (.tmp rfl) .nil) (List.nil_sublist _) ?_
      exact ⟨by rw [show ts.any badT = true from List.any_eq_true.2 ⟨_, List.getElem_mem hlt, hbk⟩]; rfl, rfl⟩
  · have hge : k = ts.length := by simp at hc0; omega
    refine code_exit ?_
    refine post_exit_then ?_
    refine post_exit_then ?_
    refine post_exit ?_
    refine post_next ?_
    refine code_seq ?_
    refine code_region ?_
    refine op_v (v_assign rfl) rfl ?_
    refine ops_nil ?_
    refine post_next ?_
    refine code_ret ?_
    refine post_ret (rs := [.tmp 2]) rfl (List.Perm.refl _) (.cons (.tmp rfl) .nil) (List.nil_sublist _) ?_
    exact ⟨by rw [show ts.any badT = false from List.any_eq_false.2 fun t ht => by obtain ⟨j, hj, rfl⟩ := List.getElem_of_mem ht; rw [hp j hj (by omega)]; simp]; rfl, rfl⟩
end Go.Proofs.Ytdbadicpbmndbaa
/- Walks: the document's answers: one clause subsumes another one, variants, what can be left out. -/
set_option linter.unusedVariables false
set_option linter.unusedSimpArgs false
set_option linter.unnecessarySimpa false
/- short -/
namespace Go.Proofs.Ytdbadicpbmndbaa
open Go Lg

theorem RepB.nil (I : Imm) : RepB I (.slice none 0 0) [] := ⟨none, 0, fun _ => (none, 0), [], Nat.le_refl _, by simp, fun i h => by simp at h, fun i h => by simp at h, fun i h => by simp at h⟩
end Go.Proofs.Ytdbadicpbmndbaa
/- Walks: a clause's variables; two clauses side by side; the example of the chapter on clauses. -/
set_option linter.unusedVariables false
set_option linter.unusedSimpArgs false
set_option linter.unnecessarySimpa false
/- short -/
namespace Go.Proofs.Ytdbadicpbmndbaa
open Go Lg

theorem uniL_take (acc l : List Int) (j : Nat) (h : j < l.length) : uniL acc (l.take (j + 1)) = addN (uniL acc (l.take j)) l[j] := by
  rw [List.take_succ_eq_append_getElem h, uniL_app]; rfl
def xv10 : T := .mk (-4) []
def fx10 : T := .mk 2 [xv10]
def A10 : Li := ⟨false, a9, fx10⟩
def N10 : Li := ⟨true, xv10, xv10⟩
def B10 : Li := ⟨false, fx10, a9⟩
def c10 : List Li := [A10, N10, B10]
end Go.Proofs.Ytdbadicpbmndbaa
/- Walks: few; the example of the chapter on subsumption. -/
set_option linter.unusedVariables false
set_option linter.unusedSimpArgs false
set_option linter.unnecessarySimpa false
/- short -/
namespace Go.Proofs.Ytdbadicpbmndbaa
open Go Lg

theorem RFew15_does {I : Imm} {v : Value} {c : List Li} (hv : RepC I v c) :
    Does Try.prog 23 [v] I [] (fun v I' δ' => (∃ b, v = .bool b ∧ (b = true → FewC c)) ∧ δ' = []) := by
  obtain ⟨ca, cc, hsh⟩ := RepE.shape hv
  subst hsh
  have hb := hv.small
  refine Does.intro Try.func23 rfl Try.ntmps23 rfl fun w0 => ?_
  refine code_seq ?_
  refine code_region ?_
  refine op_v (v_assign rfl) rfl ?_
  refine ops_nil ?_
  refine post_next ?_
  refine code_seq ?_
  refine code_region ?_
  refine op_v (v_move rfl) rfl ?_
  refine op_call pl28 rfl rfl ((Few10_does hv)) Parts.none ?_
  rintro v4 I4 _ hI4 ⟨⟨b4, rfl, hb4⟩, rfl⟩
  by_cases h5 : b4 = true
  · subst h5
    refine op_v (v_move rfl) rfl ?_
    refine op_want rfl rfl ?_
    refine op_v (v_move rfl) rfl ?_
    refine op_want rfl rfl ?_
    refine op_v (v_len Try.underlying26 rfl) rfl ?_
    by_cases h8 : c.length ≤ 6
    · refine op_want rfl rfl ?_
      refine op_v (v_cmpt rfl rfl rfl (by omega)) rfl ?_
      refine op_want rfl rfl ?_
      refine op_v (v_move rfl) rfl ?_
      refine op_skip rfl rfl (by simp [undef]) rfl ?_
      refine op_skip rfl rfl (by simp [undef]) rfl ?_
      refine op_skip rfl rfl (by simp [undef]) rfl ?_
      first
        | (refine op_want rfl rfl ?_
           refine op_v (v_pickt rfl rfl) rfl ?_)
        | (refine op_skip rfl rfl (by simp [undef]) rfl ?_)
      refine op_v (v_pickt rfl rfl) rfl ?_
      refine op_v (v_assign rfl) rfl ?_
      refine ops_nil ?_
      refine post_next ?_
      refine code_ret ?_
      refine post_ret (rs := [.tmp 2]) rfl (List.Perm.refl _) (.cons (.tmp rfl) .nil) (List.nil_sublist _) ?_
      exact ⟨⟨true, rfl, hb4⟩, rfl⟩
    · refine op_want rfl rfl ?_
      refine op_v (v_cmpf rfl rfl rfl (by omega)) rfl ?_
      refine op_want rfl rfl ?_
      refine op_v (v_move rfl) rfl ?_
      refine op_want rfl rfl ?_
      refine op_v (v_move rfl) rfl ?_
      refine op_want rfl rfl ?_
      refine op_v (v_len Try.underlying26 rfl) rfl ?_
      by_cases h12 : 32 < c.length
      · refine op_want rfl rfl ?_
        refine op_v (v_cmpt rfl rfl rfl (by omega)) rfl ?_
        first
          | (refine op_want rfl rfl ?_
             refine op_v (v_pickf rfl rfl) rfl ?_)
          | (refine op_skip rfl rfl (by simp [undef]) rfl ?_)
        refine op_v (v_pickt rfl rfl) rfl ?_
        refine op_v (v_assign rfl) rfl ?_
        refine ops_nil ?_
        refine post_next ?_
        refine code_ret ?_
        refine post_ret (rs := [.tmp 2]) rfl (List.Perm.refl _) (.cons (.tmp rfl) .nil) (List.nil_sublist _) ?_
        exact ⟨⟨true, rfl, hb4⟩, rfl⟩
      · refine op_want rfl rfl ?_
        refine op_v (v_cmpf rfl rfl rfl (by omega)) rfl ?_
        first
          | (refine op_want rfl rfl ?_
             refine op_v (v_pickf rfl rfl) rfl ?_)
          | (refine op_skip rfl rfl (by simp [undef]) rfl ?_)
        refine op_v (v_pickt rfl rfl) rfl ?_
        refine op_v (v_assign rfl) rfl ?_
        refine ops_nil ?_
        refine post_next ?_
        refine code_ret ?_
        refine post_ret (rs := [.tmp 2]) rfl (List.Perm.refl _) (.cons (.tmp rfl) .nil) (List.nil_sublist _) ?_
        exact ⟨⟨false, rfl, fun h => by cases h⟩, rfl⟩
  · have h5' : b4 = false := by simpa using h5
    subst h5'
    refine op_v (v_move rfl) rfl ?_
    refine op_skip rfl rfl (by simp [undef]) rfl ?_
    refine op_skip rfl rfl (by simp [undef]) rfl ?_
    refine op_skip rfl rfl (by simp [undef]) rfl ?_
    refine op_skip rfl rfl (by simp [undef]) rfl ?_
    refine op_skip rfl rfl (by simp [undef]) rfl ?_
    refine op_skip rfl rfl (by simp [undef]) rfl ?_
    refine op_skip rfl rfl (by simp [undef]) rfl ?_
    refine op_skip rfl rfl (by simp [undef]) rfl ?_
    refine op_v (v_pickf rfl rfl) rfl ?_
    refine op_v (v_assign rfl) rfl ?_
    refine ops_nil ?_
    refine post_next ?_
    refine code_ret ?_
    refine post_ret (rs := [.tmp 2]) rfl (List.Perm.refl _) (.cons (.tmp rfl) .nil) (List.nil_sublist _) ?_
    exact ⟨⟨false, rfl, fun h => by cases h⟩, rfl⟩
theorem few15_does {I : Imm} {va vb : Value} {c d : List Li} (ha : RepC I va c) (hb : RepC I vb d) :
    Does Try.prog 13 [va, vb] I [] (fun v I' δ' => (∃ b, v = .bool b ∧ (b = true → FewC c ∧ FewC d)) ∧ δ' = []) := by
  refine Does.intro Try.func13 rfl Try.ntmps13 rfl fun w0 => ?_
  refine code_seq ?_
  refine code_region ?_
  refine op_v (v_assign rfl) rfl ?_
  refine ops_nil ?_
  refine post_next ?_
  refine code_seq ?_
  refine code_region ?_
  refine op_v (v_move rfl) rfl ?_
  refine op_call pl23 rfl rfl ((RFew15_does ha)) Parts.none ?_
  rintro v6 I6 _ hI6 ⟨⟨b6, rfl, hb6⟩, rfl⟩
  by_cases h7 : b6 = true
  · subst h7
    refine op_v (v_move rfl) rfl ?_
    refine op_want rfl rfl ?_
    refine op_v (v_move rfl) rfl ?_
    refine op_want rfl rfl ?_
    refine op_call pl23 rfl rfl ((RFew15_does (hb.mono Imm.leA))) Parts.none ?_
    rintro v9 I9 _ hI9 ⟨⟨b9, rfl, hb9⟩, rfl⟩
    refine op_v (v_pickt rfl rfl) rfl ?_
    refine op_v (v_assign rfl) rfl ?_
    refine ops_nil ?_
    refine post_next ?_
    refine code_ret ?_
    refine post_ret (rs := [.tmp 4]) rfl (List.Perm.refl _) (.cons (.tmp rfl) .nil) (List.nil_sublist _) ?_
    exact ⟨⟨b9, rfl, fun h => ⟨hb6 rfl, hb9 h⟩⟩, rfl⟩
  · have h7' : b6 = false := by simpa using h7
    subst h7'
    refine op_v (v_move rfl) rfl ?_
    refine op_skip rfl rfl (by simp [undef]) rfl ?_
    refine op_skip rfl rfl (by simp [undef]) rfl ?_
    refine op_v (v_pickf rfl rfl) rfl ?_
    refine op_v (v_assign rfl) rfl ?_
    refine ops_nil ?_
    refine post_next ?_
    refine code_ret ?_
    refine post_ret (rs := [.tmp 4]) rfl (List.Perm.refl _) (.cons (.tmp rfl) .nil) (List.nil_sublist _) ?_
    exact ⟨⟨false, rfl, fun h => by cases h⟩, rfl⟩
def q15 (n : Bool) (t : T) : Li := ⟨n, .mk 3 [t], .mk 0 []⟩
theorem aw1_does {I : Imm} {n : Bool} {v : Value} {t : T} (hv : RepT I v t) :
    Does Try.prog 63 [.bool n, v] I [] (fun v I' δ' => RepL I' v (q15 n t) ∧ δ' = []) := by
  obtain ⟨ta, tc, rfl, _⟩ := hv.shape
  refine Does.intro Try.func63 rfl Try.ntmps63 rfl fun w0 => ?_
  refine code_seq ?_
  refine code_region ?_
  refine o_box rfl rfl rfl (fun b3 => ?_)
  refine o_alloc z49 rfl rfl (fun b4 => ?_)
  refine ops_nil ?_
  refine post_next ?_
  refine code_seq ?_
  refine code_region ?_
  refine op_v (v_move rfl) rfl ?_
  refine op_v (v_loadA ty47 rfl rfl) rfl ?_
  refine o_buildSlice (xs := [(Go.Operand.tmp 6)]) Try.underlying45 bs47 rfl rfl rfl rfl rfl (fun b7 => ?_)
  refine OpsJ.freezeRow Del.here ?_
  rintro I7 a7 c7 hI7 hq hc7 hl7 hcells7
  cases hq
  refine op_call pl62 rfl rfl ((Fun_does (by unfold InR; omega) (RowT.repS (ts := [t]) rfl hcells7 (RowT.one (hv.mono Imm.leA)) hc7 (by omega)))) Parts.none ?_
  rintro v8 I8 _ hI8 ⟨hv8, rfl⟩
  obtain ⟨a8, c8, rfl, _⟩ := hv8.shape
  refine op_call pl62 rfl rfl ((Fun_does (by unfold InR; omega) (RepS.nil _))) Parts.none ?_
  rintro v9 I9 _ hI9 ⟨hv9, rfl⟩
  obtain ⟨a9, c9, rfl, _⟩ := hv9.shape
  refine op_v (v_build (cs := liC (q15 n t) a8 c8 a9 c9) bl49 rfl rfl) rfl ?_
  refine o_store ty49 rfl rfl rfl rfl rfl (by repeat (first | exact Swap.here | apply Swap.there)) rfl ?_
  refine ops_nil ?_
  refine post_next ?_
  refine code_ret ?_
  refine post_ret (rs := [.cell 4 49]) rfl (List.Perm.refl _) (.cons (.cell rfl ty49 (by repeat (first | exact Has.here | apply Has.there)) rfl) .nil) (List.nil_sublist _) ?_
  exact ⟨⟨a8, c8, a9, c9, rfl, hv8.mono Imm.leA, hv9.mono Imm.leA⟩, rfl⟩
def x15 : T := .mk (-1) []
def a15 : T := .mk 1 []
def b15 : T := .mk 4 []
def f15 : T := .mk 2 [a15]
def c15 : List Li := [q15 false x15]
def d15 : List Li := [q15 false f15, ⟨false, a15, b15⟩]
def e15 : List Li := [q15 true x15, ⟨false, x15, a15⟩]
def g15 : List Li := [q15 false b15, ⟨false, a15, b15⟩, q15 false a15]
theorem c15_sm : SmM c15 := by unfold SmM; decide +kernel
theorem d15_sm : SmM d15 := by unfold SmM; decide +kernel
theorem e15_sm : SmM e15 := by unfold SmM; decide +kernel
theorem g15_sm : SmM g15 := by unfold SmM; decide +kernel
theorem cd15 : wrE c15 d15 = 0 := by decide +kernel
theorem eg15 : wrE e15 g15 = 0 := by decide +kernel
theorem cd15_sub : Sub c15 d15 := ⟨fun _ => f15, 0, by decide, rfl, rfl, ⟨by decide +kernel, .inl ⟨by decide +kernel, by decide +kernel⟩⟩, trivial⟩
theorem eg15_cut : CutR e15 g15 (.tuple #[.int .i64 0, .bool true, .int .i64 0]) :=
  .inr (.inr ⟨eg15, 0, 0, ⟨by decide, by decide, by decide, fun _ => b15, ⟨by decide +kernel, .inl ⟨by decide +kernel, by decide +kernel⟩⟩, 1, by decide, rfl, rfl, ⟨by decide +kernel, .inr ⟨by decide +kernel, by decide +kernel⟩⟩, trivial⟩, fun j h => by omega, rfl⟩)
theorem awake15_does (I : Imm) :
    Does Try.prog 18 [] I [] (fun v I' δ' => v = .bool true ∧ δ' = []) := by
  refine Does.intro Try.func18 rfl Try.ntmps18 rfl fun w0 => ?_
  refine code_seq ?_
  refine code_region ?_
  refine op_v (v_assign rfl) rfl ?_
  refine ops_nil ?_
  refine post_next ?_
  refine code_seq ?_
  refine code_region ?_
  refine op_call pl61 rfl rfl ((Var_does (by omega) (by omega))) Parts.none ?_
  rintro v10 I10 _ hI10 ⟨hv10, rfl⟩
  change RepT I10 v10 x15 at hv10
  obtain ⟨a10, c10, rfl, _⟩ := hv10.shape
  refine o_alloc z47 rfl rfl (fun b1 => ?_)
  refine o_store ty47 rfl rfl rfl rfl rfl (by repeat (first | exact Swap.here | apply Swap.there)) rfl ?_
  refine ops_nil ?_
  refine post_next ?_
  refine code_seq ?_
  refine code_region ?_
  refine op_call pl62 rfl rfl ((Fun_does (by unfold InR; omega) (RepS.nil _))) Parts.none ?_
  rintro v11 I11 _ hI11 ⟨hv11, rfl⟩
  change RepT I11 v11 a15 at hv11
  obtain ⟨a11, c11, rfl, _⟩ := hv11.shape
  refine o_alloc z47 rfl rfl (fun b2 => ?_)
  refine o_store ty47 rfl rfl rfl rfl rfl (by repeat (first | exact Swap.here | apply Swap.there)) rfl ?_
  refine ops_nil ?_
  refine post_next ?_
  refine code_seq ?_
  refine code_region ?_
  refine op_call pl62 rfl rfl ((Fun_does (by unfold InR; omega) (RepS.nil _))) Parts.none ?_
  rintro v12 I12 _ hI12 ⟨hv12, rfl⟩
  change RepT I12 v12 b15 at hv12
  obtain ⟨a12, c12, rfl, _⟩ := hv12.shape
  refine o_alloc z47 rfl rfl (fun b3 => ?_)
  refine o_store ty47 rfl rfl rfl rfl rfl (by repeat (first | exact Swap.here | apply Swap.there)) rfl ?_
  refine ops_nil ?_
  refine post_next ?_
  refine code_seq ?_
  refine code_region ?_
  refine op_v (v_assign rfl) rfl ?_
  refine ops_nil ?_
  refine post_next ?_
  refine code_seq_meet (fun σ' I' δ' => σ' = [(1, .pointer (some ⟨b1, 0, none⟩)), (2, .pointer (some ⟨b2, 0, none⟩)), (3, .pointer (some ⟨b3, 0, none⟩)), (4, .func (.func 63) #[] #[]), (5, .bool true), (6, .int .i64 0)] ∧ I12.le I' ∧ δ' = [.box b3 47 [.int .i64 b15.head, .slice a12 b15.args.length c12], .box b2 47 [.int .i64 a15.head, .slice a11 a15.args.length c11], .box b1 47 [.int .i64 x15.head, .slice a10 x15.args.length c10]]) ?_ ?_
  · refine code_draw (.fl 0 (.fl 1 (.fl 4 (.fl 5 (.fl 9 (.fl 10 (.fl 11 (.two 2 6 (.two 3 6 (.ef 6 (.ef 7 (.ef 8 (.ef 12 (.ef 13 (.fl 14 (.fl 15 (.fl 16 (.ef 17 (.ef 18 .done)))))))))) (.two 3 7 (.ef 7 (.ef 8 (.ef 12 (.ef 13 (.fl 14 (.fl 15 (.fl 16 (.ef 17 (.ef 18 .done))))))))) (.two 3 8 (.ef 8 (.ef 12 (.ef 13 (.fl 14 (.fl 15 (.fl 16 (.ef 17 (.ef 18 .done)))))))) (.two 3 12 (.ef 12 (.ef 13 (.fl 14 (.fl 15 (.fl 16 (.ef 17 (.ef 18 .done))))))) (.ef 3 (.ef 13 (.fl 14 (.fl 15 (.fl 16 (.ef 17 (.ef 18 .done))))))))))) (.ef 2 (.two 3 7 (.ef 7 (.ef 8 (.ef 12 (.ef 13 (.fl 14 (.fl 15 (.fl 16 (.ef 17 (.ef 18 .done))))))))) (.two 3 8 (.ef 8 (.ef 12 (.ef 13 (.fl 14 (.fl 15 (.fl 16 (.ef 17 (.ef 18 .done)))))))) (.two 3 12 (.ef 12 (.ef 13 (.fl 14 (.fl 15 (.fl 16 (.ef 17 (.ef 18 .done))))))) (.ef 3 (.ef 13 (.fl 14 (.fl 15 (.fl 16 (.ef 17 (.ef 18 .done))))))))))))))))))) (fun _ => _) mixed (by kernel_rfl) (by kernel_rfl) (fun _ => (List.Sublist.refl _)) ?_
    refine e_fl rfl rfl (fun hs_ => PF.mk rfl (v_move rfl) hs_) ?_
    refine e_fl rfl rfl (fun hs_ => PF.mk rfl (v_loadA ty47 rfl rfl) hs_) ?_
    refine e_fl rfl rfl (fun hs_ => PF.mk rfl (v_move rfl) hs_) ?_
    refine e_fl rfl rfl (fun hs_ => PF.mk rfl (v_loadA ty47 rfl rfl) hs_) ?_
    refine e_fl rfl rfl (fun hs_ => PF.mk rfl (v_loadA ty47 rfl rfl) hs_) ?_
    refine e_fl rfl rfl (fun hs_ => PF.mk rfl (v_loadA ty47 rfl rfl) hs_) ?_
    refine e_fl rfl rfl (fun hs_ => PF.mk rfl (v_build (cs := liC ⟨false, a15, b15⟩ a11 c11 a12 c12) bl49 rfl rfl) hs_) ?_
    refine e_two rfl (by intro cs b hc; cases hc) (by intro c hc; cases hc) rfl (by intro cs b hc; cases hc) (by intro c hc; cases hc) ?_ ?_
    · refine op_fcall rfl rfl rfl ((Does.toF (args := [_, _]) (by kernel_rfl) (aw1_does (hv10.mono Imm.leA)))) Parts.none ?_
      rintro v16 I16 _ hI16 ⟨hv16, rfl⟩
      obtain ⟨xa, xc, ya, yc, rfl, hxl, hxr⟩ := hv16
      refine ops_nil ?_
      refine e_next rfl side_allA ?_
      refine e_two rfl (by intro cs b hc; cases hc) (by intro c hc; cases hc) rfl (by intro cs b hc; cases hc) (by intro c hc; cases hc) ?_ ?_
      · refine o_buildSlice (xs := [(Go.Operand.tmp 16)]) Try.underlying26 bs49 rfl rfl rfl rfl rfl (fun b17 => ?_)
        refine OpsJ.freezeRow Del.here ?_
        rintro I17 a17 c17 hI17 hq hc17 hl17 hcells17
        cases hq
        refine ops_nil ?_
        refine e_next rfl side_allA ?_
        refine e_eff rfl (by intro cs b hc; cases hc) (by intro c hc; cases hc) ?_
        refine o_buildSlice (xs := [(Go.Operand.tmp 19)]) Try.underlying45 bs47 rfl rfl rfl rfl rfl (fun b20 => ?_)
        refine OpsJ.freezeRow Del.here ?_
        rintro I20 a20 c20 hI20 hq hc20 hl20 hcells20
        cases hq
        refine ops_nil ?_
        refine e_next rfl side_allA ?_
        refine e_eff rfl (by intro cs b hc; cases hc) (by intro c hc; cases hc) ?_
        refine op_call pl62 rfl rfl ((Fun_does (by unfold InR; omega) (RowT.repS (ts := [a15]) rfl (hcells20.mono Imm.leA) (RowT.one (hv11.mono Imm.leA)) hc20 (by omega)))) Parts.none ?_
        rintro v21 I21 _ hI21 ⟨hv21, rfl⟩
        change RepT I21 v21 f15 at hv21
        obtain ⟨a21, c21, rfl, _⟩ := hv21.shape
        refine ops_nil ?_
        refine e_next rfl side_allA ?_
        refine e_eff rfl (by intro cs b hc; cases hc) (by intro c hc; cases hc) ?_
        refine op_fcall rfl rfl rfl ((Does.toF (args := [_, _]) (by kernel_rfl) (aw1_does (hv21.mono Imm.leA)))) Parts.none ?_
        rintro v22 I22 _ hI22 ⟨hv22, rfl⟩
        obtain ⟨za, zc, wa, wc, rfl, hzl, hzr⟩ := hv22
        refine ops_nil ?_
        refine e_next rfl side_allA ?_
        refine e_eff rfl (by intro cs b hc; cases hc) (by intro c hc; cases hc) ?_
        refine o_buildSlice (xs := [(Go.Operand.tmp 22), (Go.Operand.tmp 25)]) Try.underlying26 bs49 rfl rfl rfl rfl rfl (fun b26 => ?_)
        refine OpsJ.freezeRow Del.here ?_
        rintro I26 a26 c26 hI26 hq hc26 hl26 hcells26
        cases hq
        refine ops_nil ?_
        refine e_next rfl side_allA ?_
        refine e_eff rfl (by intro cs b hc; cases hc) (by intro c hc; cases hc) ?_
        refine op_call pl16 rfl rfl ((Subsumes_does (c := c15) (d := d15) ⟨some ⟨b17, 0, none⟩, 1, _, rfl, Nat.le_refl _, by decide, hcells17.mono Imm.leA, ⟨_, _, rfl, ⟨xa, xc, ya, yc, rfl, hxl.mono Imm.leA, hxr.mono Imm.leA⟩, rfl⟩⟩ ⟨some ⟨b26, 0, none⟩, 2, _, rfl, Nat.le_refl _, by decide, hcells26.mono Imm.leA, ⟨_, _, rfl, ⟨za, zc, wa, wc, rfl, hzl.mono Imm.leA, hzr.mono Imm.leA⟩, _, _, rfl, ⟨a11, c11, a12, c12, rfl, hv11.mono Imm.leA, hv12.mono Imm.leA⟩, rfl⟩⟩ c15_sm d15_sm)) Parts.none ?_
        rintro v27 I27 _ hI27 ⟨⟨q27, rfl, hq27⟩, rfl⟩
        have hqt : q27 = true := hq27.2 ⟨cd15, cd15_sub⟩
        subst hqt
        rw [cd15]
        refine ops_nil ?_
        refine e_next rfl side_allA ?_
        refine e_fl rfl rfl (fun hs_ => PF.mk rfl (v_move rfl) hs_) ?_
        refine e_fl rfl rfl (fun hs_ => PF.mk rfl (v_extract rfl rfl) hs_) ?_
        refine e_fl rfl rfl (fun hs_ => PF.mk rfl (v_extract rfl rfl) hs_) ?_
        refine e_eff rfl (by intro cs b hc; cases hc) (by intro c hc; cases hc) ?_
        refine op_v (v_assign rfl) rfl ?_
        refine ops_nil ?_
        refine e_next rfl side_allA ?_
        refine e_eff rfl (by intro cs b hc; cases hc) (by intro c hc; cases hc) ?_
        refine op_v (v_assign rfl) rfl ?_
        refine ops_nil ?_
        refine e_next rfl (side_nil (by kernel_rfl)) ?_
        refine e_done ?_
        exact post_meet _ ⟨rfl, Imm.leA, rfl⟩ ⟨rfl, rfl, rfl, rfl, rfl, rfl, trivial⟩
      · refine o_buildSlice (xs := [(Go.Operand.tmp 19)]) Try.underlying45 bs47 rfl rfl rfl rfl rfl (fun b20 => ?_)
        refine OpsJ.freezeRow Del.here ?_
        rintro I20 a20 c20 hI20 hq hc20 hl20 hcells20
        cases hq
        refine ops_nil ?_
        refine e_next rfl side_allA ?_
        refine e_two rfl (by intro cs b hc; cases hc) (by intro c hc; cases hc) rfl (by intro cs b hc; cases hc) (by intro c hc; cases hc) ?_ ?_
        · refine o_buildSlice (xs := [(Go.Operand.tmp 16)]) Try.underlying26 bs49 rfl rfl rfl rfl rfl (fun b17 => ?_)
          refine OpsJ.freezeRow Del.here ?_
          rintro I17 a17 c17 hI17 hq hc17 hl17 hcells17
          cases hq
          refine ops_nil ?_
          refine e_next rfl side_allA ?_
          refine e_eff rfl (by intro cs b hc; cases hc) (by intro c hc; cases hc) ?_
          refine op_call pl62 rfl rfl ((Fun_does (by unfold InR; omega) (RowT.repS (ts := [a15]) rfl (hcells20.mono Imm.leA) (RowT.one (hv11.mono Imm.leA)) hc20 (by omega)))) Parts.none ?_
          rintro v21 I21 _ hI21 ⟨hv21, rfl⟩
          change RepT I21 v21 f15 at hv21
          obtain ⟨a21, c21, rfl, _⟩ := hv21.shape
          refine ops_nil ?_
          refine e_next rfl side_allA ?_
          refine e_eff rfl (by intro cs b hc; cases hc) (by intro c hc; cases hc) ?_
          refine op_fcall rfl rfl rfl ((Does.toF (args := [_, _]) (by kernel_rfl) (aw1_does (hv21.mono Imm.leA)))) Parts.none ?_
          rintro v22 I22 _ hI22 ⟨hv22, rfl⟩
          obtain ⟨za, zc, wa, wc, rfl, hzl, hzr⟩ := hv22
          refine ops_nil ?_
          refine e_next rfl side_allA ?_
          refine e_eff rfl (by intro cs b hc; cases hc) (by intro c hc; cases hc) ?_
          refine o_buildSlice (xs := [(Go.Operand.tmp 22), (Go.Operand.tmp 25)]) Try.underlying26 bs49 rfl rfl rfl rfl rfl (fun b26 => ?_)
          refine OpsJ.freezeRow Del.here ?_
          rintro I26 a26 c26 hI26 hq hc26 hl26 hcells26
          cases hq
          refine ops_nil ?_
          refine e_next rfl side_allA ?_
          refine e_eff rfl (by intro cs b hc; cases hc) (by intro c hc; cases hc) ?_
          refine op_call pl16 rfl rfl ((Subsumes_does (c := c15) (d := d15) ⟨some ⟨b17, 0, none⟩, 1, _, rfl, Nat.le_refl _, by decide, hcells17.mono Imm.leA, ⟨_, _, rfl, ⟨xa, xc, ya, yc, rfl, hxl.mono Imm.leA, hxr.mono Imm.leA⟩, rfl⟩⟩ ⟨some ⟨b26, 0, none⟩, 2, _, rfl, Nat.le_refl _, by decide, hcells26.mono Imm.leA, ⟨_, _, rfl, ⟨za, zc, wa, wc, rfl, hzl.mono Imm.leA, hzr.mono Imm.leA⟩, _, _, rfl, ⟨a11, c11, a12, c12, rfl, hv11.mono Imm.leA, hv12.mono Imm.leA⟩, rfl⟩⟩ c15_sm d15_sm)) Parts.none ?_
          rintro v27 I27 _ hI27 ⟨⟨q27, rfl, hq27⟩, rfl⟩
          have hqt : q27 = true := hq27.2 ⟨cd15, cd15_sub⟩
          subst hqt
          rw [cd15]
          refine ops_nil ?_
          refine e_next rfl side_allA ?_
          refine e_fl rfl rfl (fun hs_ => PF.mk rfl (v_move rfl) hs_) ?_
          refine e_fl rfl rfl (fun hs_ => PF.mk rfl (v_extract rfl rfl) hs_) ?_
          refine e_fl rfl rfl (fun hs_ => PF.mk rfl (v_extract rfl rfl) hs_) ?_
          refine e_eff rfl (by intro cs b hc; cases hc) (by intro c hc; cases hc) ?_
          refine op_v (v_assign rfl) rfl ?_
          refine ops_nil ?_
          refine e_next rfl side_allA ?_
          refine e_eff rfl (by intro cs b hc; cases hc) (by intro c hc; cases hc) ?_
          refine op_v (v_assign rfl) rfl ?_
          refine ops_nil ?_
          refine e_next rfl (side_nil (by kernel_rfl)) ?_
          refine e_done ?_
          exact post_meet _ ⟨rfl, Imm.leA, rfl⟩ ⟨rfl, rfl, rfl, rfl, rfl, rfl, trivial⟩
        · refine op_call pl62 rfl rfl ((Fun_does (by unfold InR; omega) (RowT.repS (ts := [a15]) rfl (hcells20.mono Imm.leA) (RowT.one (hv11.mono Imm.leA)) hc20 (by omega)))) Parts.none ?_
          rintro v21 I21 _ hI21 ⟨hv21, rfl⟩
          change RepT I21 v21 f15 at hv21
          obtain ⟨a21, c21, rfl, _⟩ := hv21.shape
          refine ops_nil ?_
          refine e_next rfl side_allA ?_
          refine e_two rfl (by intro cs b hc; cases hc) (by intro c hc; cases hc) rfl (by intro cs b hc; cases hc) (by intro c hc; cases hc) ?_ ?_
          · refine o_buildSlice (xs := [(Go.Operand.tmp 16)]) Try.underlying26 bs49 rfl rfl rfl rfl rfl (fun b17 => ?_)
            refine OpsJ.freezeRow Del.here ?_
            rintro I17 a17 c17 hI17 hq hc17 hl17 hcells17
            cases hq
            refine ops_nil ?_
            refine e_next rfl side_allA ?_
            refine e_eff rfl (by intro cs b hc; cases hc) (by intro c hc; cases hc) ?_
            refine op_fcall rfl rfl rfl ((Does.toF (args := [_, _]) (by kernel_rfl) (aw1_does (hv21.mono Imm.leA)))) Parts.none ?_
            rintro v22 I22 _ hI22 ⟨hv22, rfl⟩
            obtain ⟨za, zc, wa, wc, rfl, hzl, hzr⟩ := hv22
            refine ops_nil ?_
            refine e_next rfl side_allA ?_
            refine e_eff rfl (by intro cs b hc; cases hc) (by intro c hc; cases hc) ?_
            refine o_buildSlice (xs := [(Go.Operand.tmp 22), (Go.Operand.tmp 25)]) Try.underlying26 bs49 rfl rfl rfl rfl rfl (fun b26 => ?_)
            refine OpsJ.freezeRow Del.here ?_
            rintro I26 a26 c26 hI26 hq hc26 hl26 hcells26
            cases hq
            refine ops_nil ?_
            refine e_next rfl side_allA ?_
            refine e_eff rfl (by intro cs b hc; cases hc) (by intro c hc; cases hc) ?_
            refine op_call pl16 rfl rfl ((Subsumes_does (c := c15) (d := d15) ⟨some ⟨b17, 0, none⟩, 1, _, rfl, Nat.le_refl _, by decide, hcells17.mono Imm.leA, ⟨_, _, rfl, ⟨xa, xc, ya, yc, rfl, hxl.mono Imm.leA, hxr.mono Imm.leA⟩, rfl⟩⟩ ⟨some ⟨b26, 0, none⟩, 2, _, rfl, Nat.le_refl _, by decide, hcells26.mono Imm.leA, ⟨_, _, rfl, ⟨za, zc, wa, wc, rfl, hzl.mono Imm.leA, hzr.mono Imm.leA⟩, _, _, rfl, ⟨a11, c11, a12, c12, rfl, hv11.mono Imm.leA, hv12.mono Imm.leA⟩, rfl⟩⟩ c15_sm d15_sm)) Parts.none ?_
            rintro v27 I27 _ hI27 ⟨⟨q27, rfl, hq27⟩, rfl⟩
            have hqt : q27 = true := hq27.2 ⟨cd15, cd15_sub⟩
            subst hqt
            rw [cd15]
            refine ops_nil ?_
            refine e_next rfl side_allA ?_
            refine e_fl rfl rfl (fun hs_ => PF.mk rfl (v_move rfl) hs_) ?_
            refine e_fl rfl rfl (fun hs_ => PF.mk rfl (v_extract rfl rfl) hs_) ?_
            refine e_fl rfl rfl (fun hs_ => PF.mk rfl (v_extract rfl rfl) hs_) ?_
            refine e_eff rfl (by intro cs b hc; cases hc) (by intro c hc; cases hc) ?_
            refine op_v (v_assign rfl) rfl ?_
            refine ops_nil ?_
            refine e_next rfl side_allA ?_
            refine e_eff rfl (by intro cs b hc; cases hc) (by intro c hc; cases hc) ?_
            refine op_v (v_assign rfl) rfl ?_
            refine ops_nil ?_
            refine e_next rfl (side_nil (by kernel_rfl)) ?_
            refine e_done ?_
            exact post_meet _ ⟨rfl, Imm.leA, rfl⟩ ⟨rfl, rfl, rfl, rfl, rfl, rfl, trivial⟩
          · refine op_fcall rfl rfl rfl ((Does.toF (args := [_, _]) (by kernel_rfl) (aw1_does (hv21.mono Imm.leA)))) Parts.none ?_
            rintro v22 I22 _ hI22 ⟨hv22, rfl⟩
            obtain ⟨za, zc, wa, wc, rfl, hzl, hzr⟩ := hv22
            refine ops_nil ?_
            refine e_next rfl side_allA ?_
            refine e_two rfl (by intro cs b hc; cases hc) (by intro c hc; cases hc) rfl (by intro cs b hc; cases hc) (by intro c hc; cases hc) ?_ ?_
            · refine o_buildSlice (xs := [(Go.Operand.tmp 16)]) Try.underlying26 bs49 rfl rfl rfl rfl rfl (fun b17 => ?_)
              refine OpsJ.freezeRow Del.here ?_
              rintro I17 a17 c17 hI17 hq hc17 hl17 hcells17
              cases hq
              refine ops_nil ?_
              refine e_next rfl side_allA ?_
              refine e_eff rfl (by intro cs b hc; cases hc) (by intro c hc; cases hc) ?_
              refine o_buildSlice (xs := [(Go.Operand.tmp 22), (Go.Operand.tmp 25)]) Try.underlying26 bs49 rfl rfl rfl rfl rfl (fun b26 => ?_)
              refine OpsJ.freezeRow Del.here ?_
              rintro I26 a26 c26 hI26 hq hc26 hl26 hcells26
              cases hq
              refine ops_nil ?_
              refine e_next rfl side_allA ?_
              refine e_eff rfl (by intro cs b hc; cases hc) (by intro c hc; cases hc) ?_
              refine op_call pl16 rfl rfl ((Subsumes_does (c := c15) (d := d15) ⟨some ⟨b17, 0, none⟩, 1, _, rfl, Nat.le_refl _, by decide, hcells17.mono Imm.leA, ⟨_, _, rfl, ⟨xa, xc, ya, yc, rfl, hxl.mono Imm.leA, hxr.mono Imm.leA⟩, rfl⟩⟩ ⟨some ⟨b26, 0, none⟩, 2, _, rfl, Nat.le_refl _, by decide, hcells26.mono Imm.leA, ⟨_, _, rfl, ⟨za, zc, wa, wc, rfl, hzl.mono Imm.leA, hzr.mono Imm.leA⟩, _, _, rfl, ⟨a11, c11, a12, c12, rfl, hv11.mono Imm.leA, hv12.mono Imm.leA⟩, rfl⟩⟩ c15_sm d15_sm)) Parts.none ?_
              rintro v27 I27 _ hI27 ⟨⟨q27, rfl, hq27⟩, rfl⟩
              have hqt : q27 = true := hq27.2 ⟨cd15, cd15_sub⟩
              subst hqt
              rw [cd15]
              refine ops_nil ?_
              refine e_next rfl side_allA ?_
              refine e_fl rfl rfl (fun hs_ => PF.mk rfl (v_move rfl) hs_) ?_
              refine e_fl rfl rfl (fun hs_ => PF.mk rfl (v_extract rfl rfl) hs_) ?_
              refine e_fl rfl rfl (fun hs_ => PF.mk rfl (v_extract rfl rfl) hs_) ?_
              refine e_eff rfl (by intro cs b hc; cases hc) (by intro c hc; cases hc) ?_
              refine op_v (v_assign rfl) rfl ?_
              refine ops_nil ?_
              refine e_next rfl side_allA ?_
              refine e_eff rfl (by intro cs b hc; cases hc) (by intro c hc; cases hc) ?_
              refine op_v (v_assign rfl) rfl ?_
              refine ops_nil ?_
              refine e_next rfl (side_nil (by kernel_rfl)) ?_
              refine e_done ?_
              exact post_meet _ ⟨rfl, Imm.leA, rfl⟩ ⟨rfl, rfl, rfl, rfl, rfl, rfl, trivial⟩
            · refine o_buildSlice (xs := [(Go.Operand.tmp 22), (Go.Operand.tmp 25)]) Try.underlying26 bs49 rfl rfl rfl rfl rfl (fun b26 => ?_)
              refine OpsJ.freezeRow Del.here ?_
              rintro I26 a26 c26 hI26 hq hc26 hl26 hcells26
              cases hq
              refine ops_nil ?_
              refine e_next rfl side_allA ?_
              refine e_eff rfl (by intro cs b hc; cases hc) (by intro c hc; cases hc) ?_
              refine o_buildSlice (xs := [(Go.Operand.tmp 16)]) Try.underlying26 bs49 rfl rfl rfl rfl rfl (fun b17 => ?_)
              refine OpsJ.freezeRow Del.here ?_
              rintro I17 a17 c17 hI17 hq hc17 hl17 hcells17
              cases hq
              refine ops_nil ?_
              refine e_next rfl side_allA ?_
              refine e_eff rfl (by intro cs b hc; cases hc) (by intro c hc; cases hc) ?_
              refine op_call pl16 rfl rfl ((Subsumes_does (c := c15) (d := d15) ⟨some ⟨b17, 0, none⟩, 1, _, rfl, Nat.le_refl _, by decide, hcells17.mono Imm.leA, ⟨_, _, rfl, ⟨xa, xc, ya, yc, rfl, hxl.mono Imm.leA, hxr.mono Imm.leA⟩, rfl⟩⟩ ⟨some ⟨b26, 0, none⟩, 2, _, rfl, Nat.le_refl _, by decide, hcells26.mono Imm.leA, ⟨_, _, rfl, ⟨za, zc, wa, wc, rfl, hzl.mono Imm.leA, hzr.mono Imm.leA⟩, _, _, rfl, ⟨a11, c11, a12, c12, rfl, hv11.mono Imm.leA, hv12.mono Imm.leA⟩, rfl⟩⟩ c15_sm d15_sm)) Parts.none ?_
              rintro v27 I27 _ hI27 ⟨⟨q27, rfl, hq27⟩, rfl⟩
              have hqt : q27 = true := hq27.2 ⟨cd15, cd15_sub⟩
              subst hqt
              rw [cd15]
              refine ops_nil ?_
              refine e_next rfl side_allA ?_
              refine e_fl rfl rfl (fun hs_ => PF.mk rfl (v_move rfl) hs_) ?_
              refine e_fl rfl rfl (fun hs_ => PF.mk rfl (v_extract rfl rfl) hs_) ?_
              refine e_fl rfl rfl (fun hs_ => PF.mk rfl (v_extract rfl rfl) hs_) ?_
              refine e_eff rfl (by intro cs b hc; cases hc) (by intro c hc; cases hc) ?_
              refine op_v (v_assign rfl) rfl ?_
              refine ops_nil ?_
              refine e_next rfl side_allA ?_
              refine e_eff rfl (by intro cs b hc; cases hc) (by intro c hc; cases hc) ?_
              refine op_v (v_assign rfl) rfl ?_
              refine ops_nil ?_
              refine e_next rfl (side_nil (by kernel_rfl)) ?_
              refine e_done ?_
              exact post_meet _ ⟨rfl, Imm.leA, rfl⟩ ⟨rfl, rfl, rfl, rfl, rfl, rfl, trivial⟩
    · refine o_buildSlice (xs := [(Go.Operand.tmp 19)]) Try.underlying45 bs47 rfl rfl rfl rfl rfl (fun b20 => ?_)
      refine OpsJ.freezeRow Del.here ?_
      rintro I20 a20 c20 hI20 hq hc20 hl20 hcells20
      cases hq
      refine ops_nil ?_
      refine e_next rfl side_allA ?_
      refine e_eff rfl (by intro cs b hc; cases hc) (by intro c hc; cases hc) ?_
      refine op_fcall rfl rfl rfl ((Does.toF (args := [_, _]) (by kernel_rfl) (aw1_does (hv10.mono Imm.leA)))) Parts.none ?_
      rintro v16 I16 _ hI16 ⟨hv16, rfl⟩
      obtain ⟨xa, xc, ya, yc, rfl, hxl, hxr⟩ := hv16
      refine ops_nil ?_
      refine e_next rfl side_allA ?_
      refine e_two rfl (by intro cs b hc; cases hc) (by intro c hc; cases hc) rfl (by intro cs b hc; cases hc) (by intro c hc; cases hc) ?_ ?_
      · refine o_buildSlice (xs := [(Go.Operand.tmp 16)]) Try.underlying26 bs49 rfl rfl rfl rfl rfl (fun b17 => ?_)
        refine OpsJ.freezeRow Del.here ?_
        rintro I17 a17 c17 hI17 hq hc17 hl17 hcells17
        cases hq
        refine ops_nil ?_
        refine e_next rfl side_allA ?_
        refine e_eff rfl (by intro cs b hc; cases hc) (by intro c hc; cases hc) ?_
        refine op_call pl62 rfl rfl ((Fun_does (by unfold InR; omega) (RowT.repS (ts := [a15]) rfl (hcells20.mono Imm.leA) (RowT.one (hv11.mono Imm.leA)) hc20 (by omega)))) Parts.none ?_
        rintro v21 I21 _ hI21 ⟨hv21, rfl⟩
        change RepT I21 v21 f15 at hv21
        obtain ⟨a21, c21, rfl, _⟩ := hv21.shape
        refine ops_nil ?_
        refine e_next rfl side_allA ?_
        refine e_eff rfl (by intro cs b hc; cases hc) (by intro c hc; cases hc) ?_
        refine op_fcall rfl rfl rfl ((Does.toF (args := [_, _]) (by kernel_rfl) (aw1_does (hv21.mono Imm.leA)))) Parts.none ?_
        rintro v22 I22 _ hI22 ⟨hv22, rfl⟩
        obtain ⟨za, zc, wa, wc, rfl, hzl, hzr⟩ := hv22
        refine ops_nil ?_
        refine e_next rfl side_allA ?_
        refine e_eff rfl (by intro cs b hc; cases hc) (by intro c hc; cases hc) ?_
        refine o_buildSlice (xs := [(Go.Operand.tmp 22), (Go.Operand.tmp 25)]) Try.underlying26 bs49 rfl rfl rfl rfl rfl (fun b26 => ?_)
        refine OpsJ.freezeRow Del.here ?_
        rintro I26 a26 c26 hI26 hq hc26 hl26 hcells26
        cases hq
        refine ops_nil ?_
        refine e_next rfl side_allA ?_
        refine e_eff rfl (by intro cs b hc; cases hc) (by intro c hc; cases hc) ?_
        refine op_call pl16 rfl rfl ((Subsumes_does (c := c15) (d := d15) ⟨some ⟨b17, 0, none⟩, 1, _, rfl, Nat.le_refl _, by decide, hcells17.mono Imm.leA, ⟨_, _, rfl, ⟨xa, xc, ya, yc, rfl, hxl.mono Imm.leA, hxr.mono Imm.leA⟩, rfl⟩⟩ ⟨some ⟨b26, 0, none⟩, 2, _, rfl, Nat.le_refl _, by decide, hcells26.mono Imm.leA, ⟨_, _, rfl, ⟨za, zc, wa, wc, rfl, hzl.mono Imm.leA, hzr.mono Imm.leA⟩, _, _, rfl, ⟨a11, c11, a12, c12, rfl, hv11.mono Imm.leA, hv12.mono Imm.leA⟩, rfl⟩⟩ c15_sm d15_sm)) Parts.none ?_
        rintro v27 I27 _ hI27 ⟨⟨q27, rfl, hq27⟩, rfl⟩
        have hqt : q27 = true := hq27.2 ⟨cd15, cd15_sub⟩
        subst hqt
        rw [cd15]
        refine ops_nil ?_
        refine e_next rfl side_allA ?_
        refine e_fl rfl rfl (fun hs_ => PF.mk rfl (v_move rfl) hs_) ?_
        refine e_fl rfl rfl (fun hs_ => PF.mk rfl (v_extract rfl rfl) hs_) ?_
        refine e_fl rfl rfl (fun hs_ => PF.mk rfl (v_extract rfl rfl) hs_) ?_
        refine e_eff rfl (by intro cs b hc; cases hc) (by intro c hc; cases hc) ?_
        refine op_v (v_assign rfl) rfl ?_
        refine ops_nil ?_
        refine e_next rfl side_allA ?_
        refine e_eff rfl (by intro cs b hc; cases hc) (by intro c hc; cases hc) ?_
        refine op_v (v_assign rfl) rfl ?_
        refine ops_nil ?_
        refine e_next rfl (side_nil (by kernel_rfl)) ?_
        refine e_done ?_
        exact post_meet _ ⟨rfl, Imm.leA, rfl⟩ ⟨rfl, rfl, rfl, rfl, rfl, rfl, trivial⟩
      · refine op_call pl62 rfl rfl ((Fun_does (by unfold InR; omega) (RowT.repS (ts := [a15]) rfl (hcells20.mono Imm.leA) (RowT.one (hv11.mono Imm.leA)) hc20 (by omega)))) Parts.none ?_
        rintro v21 I21 _ hI21 ⟨hv21, rfl⟩
        change RepT I21 v21 f15 at hv21
        obtain ⟨a21, c21, rfl, _⟩ := hv21.shape
        refine ops_nil ?_
        refine e_next rfl side_allA ?_
        refine e_two rfl (by intro cs b hc; cases hc) (by intro c hc; cases hc) rfl (by intro cs b hc; cases hc) (by intro c hc; cases hc) ?_ ?_
        · refine o_buildSlice (xs := [(Go.Operand.tmp 16)]) Try.underlying26 bs49 rfl rfl rfl rfl rfl (fun b17 => ?_)
          refine OpsJ.freezeRow Del.here ?_
          rintro I17 a17 c17 hI17 hq hc17 hl17 hcells17
          cases hq
          refine ops_nil ?_
          refine e_next rfl side_allA ?_
          refine e_eff rfl (by intro cs b hc; cases hc) (by intro c hc; cases hc) ?_
          refine op_fcall rfl rfl rfl ((Does.toF (args := [_, _]) (by kernel_rfl) (aw1_does (hv21.mono Imm.leA)))) Parts.none ?_
          rintro v22 I22 _ hI22 ⟨hv22, rfl⟩
          obtain ⟨za, zc, wa, wc, rfl, hzl, hzr⟩ := hv22
          refine ops_nil ?_
          refine e_next rfl side_allA ?_
          refine e_eff rfl (by intro cs b hc; cases hc) (by intro c hc; cases hc) ?_
          refine o_buildSlice (xs := [(Go.Operand.tmp 22), (Go.Operand.tmp 25)]) Try.underlying26 bs49 rfl rfl rfl rfl rfl (fun b26 => ?_)
          refine OpsJ.freezeRow Del.here ?_
          rintro I26 a26 c26 hI26 hq hc26 hl26 hcells26
          cases hq
          refine ops_nil ?_
          refine e_next rfl side_allA ?_
          refine e_eff rfl (by intro cs b hc; cases hc) (by intro c hc; cases hc) ?_
          refine op_call pl16 rfl rfl ((Subsumes_does (c := c15) (d := d15) ⟨some ⟨b17, 0, none⟩, 1, _, rfl, Nat.le_refl _, by decide, hcells17.mono Imm.leA, ⟨_, _, rfl, ⟨xa, xc, ya, yc, rfl, hxl.mono Imm.leA, hxr.mono Imm.leA⟩, rfl⟩⟩ ⟨some ⟨b26, 0, none⟩, 2, _, rfl, Nat.le_refl _, by decide, hcells26.mono Imm.leA, ⟨_, _, rfl, ⟨za, zc, wa, wc, rfl, hzl.mono Imm.leA, hzr.mono Imm.leA⟩, _, _, rfl, ⟨a11, c11, a12, c12, rfl, hv11.mono Imm.leA, hv12.mono Imm.leA⟩, rfl⟩⟩ c15_sm d15_sm)) Parts.none ?_
          rintro v27 I27 _ hI27 ⟨⟨q27, rfl, hq27⟩, rfl⟩
          have hqt : q27 = true := hq27.2 ⟨cd15, cd15_sub⟩
          subst hqt
          rw [cd15]
          refine ops_nil ?_
          refine e_next rfl side_allA ?_
          refine e_fl rfl rfl (fun hs_ => PF.mk rfl (v_move rfl) hs_) ?_
          refine e_fl rfl rfl (fun hs_ => PF.mk rfl (v_extract rfl rfl) hs_) ?_
          refine e_fl rfl rfl (fun hs_ => PF.mk rfl (v_extract rfl rfl) hs_) ?_
          refine e_eff rfl (by intro cs b hc; cases hc) (by intro c hc; cases hc) ?_
          refine op_v (v_assign rfl) rfl ?_
          refine ops_nil ?_
          refine e_next rfl side_allA ?_
          refine e_eff rfl (by intro cs b hc; cases hc) (by intro c hc; cases hc) ?_
          refine op_v (v_assign rfl) rfl ?_
          refine ops_nil ?_
          refine e_next rfl (side_nil (by kernel_rfl)) ?_
          refine e_done ?_
          exact post_meet _ ⟨rfl, Imm.leA, rfl⟩ ⟨rfl, rfl, rfl, rfl, rfl, rfl, trivial⟩
        · refine op_fcall rfl rfl rfl ((Does.toF (args := [_, _]) (by kernel_rfl) (aw1_does (hv21.mono Imm.leA)))) Parts.none ?_
          rintro v22 I22 _ hI22 ⟨hv22, rfl⟩
          obtain ⟨za, zc, wa, wc, rfl, hzl, hzr⟩ := hv22
          refine ops_nil ?_
          refine e_next rfl side_allA ?_
          refine e_two rfl (by intro cs b hc; cases hc) (by intro c hc; cases hc) rfl (by intro cs b hc; cases hc) (by intro c hc; cases hc) ?_ ?_
          · refine o_buildSlice (xs := [(Go.Operand.tmp 16)]) Try.underlying26 bs49 rfl rfl rfl rfl rfl (fun b17 => ?_)
            refine OpsJ.freezeRow Del.here ?_
            rintro I17 a17 c17 hI17 hq hc17 hl17 hcells17
            cases hq
            refine ops_nil ?_
            refine e_next rfl side_allA ?_
            refine e_eff rfl (by intro cs b hc; cases hc) (by intro c hc; cases hc) ?_
            refine o_buildSlice (xs := [(Go.Operand.tmp 22), (Go.Operand.tmp 25)]) Try.underlying26 bs49 rfl rfl rfl rfl rfl (fun b26 => ?_)
            refine OpsJ.freezeRow Del.here ?_
            rintro I26 a26 c26 hI26 hq hc26 hl26 hcells26
            cases hq
            refine ops_nil ?_
            refine e_next rfl side_allA ?_
            refine e_eff rfl (by intro cs b hc; cases hc) (by intro c hc; cases hc) ?_
            refine op_call pl16 rfl rfl ((Subsumes_does (c := c15) (d := d15) ⟨some ⟨b17, 0, none⟩, 1, _, rfl, Nat.le_refl _, by decide, hcells17.mono Imm.leA, ⟨_, _, rfl, ⟨xa, xc, ya, yc, rfl, hxl.mono Imm.leA, hxr.mono Imm.leA⟩, rfl⟩⟩ ⟨some ⟨b26, 0, none⟩, 2, _, rfl, Nat.le_refl _, by decide, hcells26.mono Imm.leA, ⟨_, _, rfl, ⟨za, zc, wa, wc, rfl, hzl.mono Imm.leA, hzr.mono Imm.leA⟩, _, _, rfl, ⟨a11, c11, a12, c12, rfl, hv11.mono Imm.leA, hv12.mono Imm.leA⟩, rfl⟩⟩ c15_sm d15_sm)) Parts.none ?_
            rintro v27 I27 _ hI27 ⟨⟨q27, rfl, hq27⟩, rfl⟩
            have hqt : q27 = true := hq27.2 ⟨cd15, cd15_sub⟩
            subst hqt
            rw [cd15]
            refine ops_nil ?_
            refine e_next rfl side_allA ?_
            refine e_fl rfl rfl (fun hs_ => PF.mk rfl (v_move rfl) hs_) ?_
            refine e_fl rfl rfl (fun hs_ => PF.mk rfl (v_extract rfl rfl) hs_) ?_
            refine e_fl rfl rfl (fun hs_ => PF.mk rfl (v_extract rfl rfl) hs_) ?_
            refine e_eff rfl (by intro cs b hc; cases hc) (by intro c hc; cases hc) ?_
            refine op_v (v_assign rfl) rfl ?_
            refine ops_nil ?_
            refine e_next rfl side_allA ?_
            refine e_eff rfl (by intro cs b hc; cases hc) (by intro c hc; cases hc) ?_
            refine op_v (v_assign rfl) rfl ?_
            refine ops_nil ?_
            refine e_next rfl (side_nil (by kernel_rfl)) ?_
            refine e_done ?_
            exact post_meet _ ⟨rfl, Imm.leA, rfl⟩ ⟨rfl, rfl, rfl, rfl, rfl, rfl, trivial⟩
          · refine o_buildSlice (xs := [(Go.Operand.tmp 22), (Go.Operand.tmp 25)]) Try.underlying26 bs49 rfl rfl rfl rfl rfl (fun b26 => ?_)
            refine OpsJ.freezeRow Del.here ?_
            rintro I26 a26 c26 hI26 hq hc26 hl26 hcells26
            cases hq
            refine ops_nil ?_
            refine e_next rfl side_allA ?_
            refine e_eff rfl (by intro cs b hc; cases hc) (by intro c hc; cases hc) ?_
            refine o_buildSlice (xs := [(Go.Operand.tmp 16)]) Try.underlying26 bs49 rfl rfl rfl rfl rfl (fun b17 => ?_)
            refine OpsJ.freezeRow Del.here ?_
            rintro I17 a17 c17 hI17 hq hc17 hl17 hcells17
            cases hq
            refine ops_nil ?_
            refine e_next rfl side_allA ?_
            refine e_eff rfl (by intro cs b hc; cases hc) (by intro c hc; cases hc) ?_
            refine op_call pl16 rfl rfl ((Subsumes_does (c := c15) (d := d15) ⟨some ⟨b17, 0, none⟩, 1, _, rfl, Nat.le_refl _, by decide, hcells17.mono Imm.leA, ⟨_, _, rfl, ⟨xa, xc, ya, yc, rfl, hxl.mono Imm.leA, hxr.mono Imm.leA⟩, rfl⟩⟩ ⟨some ⟨b26, 0, none⟩, 2, _, rfl, Nat.le_refl _, by decide, hcells26.mono Imm.leA, ⟨_, _, rfl, ⟨za, zc, wa, wc, rfl, hzl.mono Imm.leA, hzr.mono Imm.leA⟩, _, _, rfl, ⟨a11, c11, a12, c12, rfl, hv11.mono Imm.leA, hv12.mono Imm.leA⟩, rfl⟩⟩ c15_sm d15_sm)) Parts.none ?_
            rintro v27 I27 _ hI27 ⟨⟨q27, rfl, hq27⟩, rfl⟩
            have hqt : q27 = true := hq27.2 ⟨cd15, cd15_sub⟩
            subst hqt
            rw [cd15]
            refine ops_nil ?_
            refine e_next rfl side_allA ?_
            refine e_fl rfl rfl (fun hs_ => PF.mk rfl (v_move rfl) hs_) ?_
            refine e_fl rfl rfl (fun hs_ => PF.mk rfl (v_extract rfl rfl) hs_) ?_
            refine e_fl rfl rfl (fun hs_ => PF.mk rfl (v_extract rfl rfl) hs_) ?_
            refine e_eff rfl (by intro cs b hc; cases hc) (by intro c hc; cases hc) ?_
            refine op_v (v_assign rfl) rfl ?_
            refine ops_nil ?_
            refine e_next rfl side_allA ?_
            refine e_eff rfl (by intro cs b hc; cases hc) (by intro c hc; cases hc) ?_
            refine op_v (v_assign rfl) rfl ?_
            refine ops_nil ?_
            refine e_next rfl (side_nil (by kernel_rfl)) ?_
            refine e_done ?_
            exact post_meet _ ⟨rfl, Imm.leA, rfl⟩ ⟨rfl, rfl, rfl, rfl, rfl, rfl, trivial⟩
  · rintro _ J5 _ ⟨rfl, hJ5, rfl⟩
    refine code_seq_meet (fun σ' I' δ' => σ' = [(5, .bool true), (6, .int .i64 0), (7, .int .i64 0), (8, .bool true), (9, .int .i64 0)] ∧ I12.le I' ∧ δ' = [.box b3 47 [.int .i64 b15.head, .slice a12 b15.args.length c12], .box b2 47 [.int .i64 a15.head, .slice a11 a15.args.length c11], .box b1 47 [.int .i64 x15.head, .slice a10 x15.args.length c10]]) ?_ ?_
    · refine code_draw (.fl 0 (.fl 1 (.fl 3 (.fl 4 (.fl 5 (.fl 7 (.fl 8 (.fl 10 (.fl 11 (.fl 12 (.fl 13 (.fl 14 (.ef 2 (.two 6 9 (.ef 9 (.ef 15 (.ef 16 (.ef 17 (.fl 18 (.fl 19 (.fl 20 (.fl 21 (.ef 22 (.ef 23 (.ef 24 .done))))))))))) (.two 6 15 (.ef 15 (.ef 16 (.ef 17 (.fl 18 (.fl 19 (.fl 20 (.fl 21 (.ef 22 (.ef 23 (.ef 24 .done)))))))))) (.two 6 16 (.ef 16 (.ef 17 (.fl 18 (.fl 19 (.fl 20 (.fl 21 (.ef 22 (.ef 23 (.ef 24 .done))))))))) (.ef 6 (.ef 17 (.fl 18 (.fl 19 (.fl 20 (.fl 21 (.ef 22 (.ef 23 (.ef 24 .done))))))))))))))))))))))))) (fun _ => _) mixed (by kernel_rfl) (by kernel_rfl) (fun _ => (List.Sublist.refl _)) ?_
      refine e_fl rfl rfl (fun hs_ => PF.mk rfl (v_move rfl) hs_) ?_
      refine e_fl rfl rfl (fun hs_ => PF.mk rfl (v_loadA ty47 rfl rfl) hs_) ?_
      refine e_fl rfl rfl (fun hs_ => PF.mk rfl (v_loadA ty47 rfl rfl) hs_) ?_
      refine e_fl rfl rfl (fun hs_ => PF.mk rfl (v_loadA ty47 rfl rfl) hs_) ?_
      refine e_fl rfl rfl (fun hs_ => PF.mk rfl (v_build (cs := liC ⟨false, x15, a15⟩ a10 c10 a11 c11) bl49 rfl rfl) hs_) ?_
      refine e_fl rfl rfl (fun hs_ => PF.mk rfl (v_move rfl) hs_) ?_
      refine e_fl rfl rfl (fun hs_ => PF.mk rfl (v_loadA ty47 rfl rfl) hs_) ?_
      refine e_fl rfl rfl (fun hs_ => PF.mk rfl (v_loadA ty47 rfl rfl) hs_) ?_
      refine e_fl rfl rfl (fun hs_ => PF.mk rfl (v_loadA ty47 rfl rfl) hs_) ?_
      refine e_fl rfl rfl (fun hs_ => PF.mk rfl (v_build (cs := liC ⟨false, a15, b15⟩ a11 c11 a12 c12) bl49 rfl rfl) hs_) ?_
      refine e_fl rfl rfl (fun hs_ => PF.mk rfl (v_move rfl) hs_) ?_
      refine e_fl rfl rfl (fun hs_ => PF.mk rfl (v_loadA ty47 rfl rfl) hs_) ?_
      refine e_eff rfl (by intro cs b hc; cases hc) (by intro c hc; cases hc) ?_
      refine op_fcall rfl rfl rfl ((Does.toF (args := [_, _]) (by kernel_rfl) (aw1_does (hv10.mono Imm.leA)))) Parts.none ?_
      rintro v33 I33 _ hI33 ⟨hv33, rfl⟩
      obtain ⟨pa, pc, qa, qc, rfl, hpl, hpr⟩ := hv33
      refine ops_nil ?_
      refine e_next rfl side_allA ?_
      refine e_two rfl (by intro cs b hc; cases hc) (by intro c hc; cases hc) rfl (by intro cs b hc; cases hc) (by intro c hc; cases hc) ?_ ?_
      · refine o_buildSlice (xs := [(Go.Operand.tmp 33), (Go.Operand.tmp 36)]) Try.underlying26 bs49 rfl rfl rfl rfl rfl (fun b37 => ?_)
        refine OpsJ.freezeRow Del.here ?_
        rintro I37 a37 c37 hI37 hq hc37 hl37 hcells37
        cases hq
        refine ops_nil ?_
        refine e_next rfl side_allA ?_
        refine e_eff rfl (by intro cs b hc; cases hc) (by intro c hc; cases hc) ?_
        refine op_fcall rfl rfl rfl ((Does.toF (args := [_, _]) (by kernel_rfl) (aw1_does (hv12.mono Imm.leA)))) Parts.none ?_
        rintro v40 I40 _ hI40 ⟨hv40, rfl⟩
        obtain ⟨ra, rc, sa, sc, rfl, hrl, hrr⟩ := hv40
        refine ops_nil ?_
        refine e_next rfl side_allA ?_
        refine e_eff rfl (by intro cs b hc; cases hc) (by intro c hc; cases hc) ?_
        refine op_fcall rfl rfl rfl ((Does.toF (args := [_, _]) (by kernel_rfl) (aw1_does (hv11.mono Imm.leA)))) Parts.none ?_
        rintro v46 I46 _ hI46 ⟨hv46, rfl⟩
        obtain ⟨ta, tc, ua, uc, rfl, htl, htr⟩ := hv46
        refine ops_nil ?_
        refine e_next rfl side_allA ?_
        refine e_eff rfl (by intro cs b hc; cases hc) (by intro c hc; cases hc) ?_
        refine o_buildSlice (xs := [(Go.Operand.tmp 40), (Go.Operand.tmp 43), (Go.Operand.tmp 46)]) Try.underlying26 bs49 rfl rfl rfl rfl rfl (fun b47 => ?_)
        refine OpsJ.freezeRow Del.here ?_
        rintro I47 a47 c47 hI47 hq hc47 hl47 hcells47
        cases hq
        refine ops_nil ?_
        refine e_next rfl side_allA ?_
        refine e_eff rfl (by intro cs b hc; cases hc) (by intro c hc; cases hc) ?_
        refine op_call pl17 rfl rfl ((Cut_does (c := e15) (d := g15) ⟨some ⟨b37, 0, none⟩, 2, _, rfl, Nat.le_refl _, by decide, hcells37.mono Imm.leA, ⟨_, _, rfl, ⟨pa, pc, qa, qc, rfl, hpl.mono Imm.leA, hpr.mono Imm.leA⟩, _, _, rfl, ⟨a10, c10, a11, c11, rfl, hv10.mono Imm.leA, hv11.mono Imm.leA⟩, rfl⟩⟩ ⟨some ⟨b47, 0, none⟩, 3, _, rfl, Nat.le_refl _, by decide, hcells47.mono Imm.leA, ⟨_, _, rfl, ⟨ra, rc, sa, sc, rfl, hrl.mono Imm.leA, hrr.mono Imm.leA⟩, _, _, rfl, ⟨a11, c11, a12, c12, rfl, hv11.mono Imm.leA, hv12.mono Imm.leA⟩, _, _, rfl, ⟨ta, tc, ua, uc, rfl, htl.mono Imm.leA, htr.mono Imm.leA⟩, rfl⟩⟩ e15_sm g15_sm)) Parts.none ?_
        rintro v48 I48 _ hI48 ⟨hcut, rfl⟩
        have hv48 := hcut.eq eg15_cut
        subst hv48
        refine ops_nil ?_
        refine e_next rfl side_allA ?_
        refine e_fl rfl rfl (fun hs_ => PF.mk rfl (v_move rfl) hs_) ?_
        refine e_fl rfl rfl (fun hs_ => PF.mk rfl (v_extract rfl rfl) hs_) ?_
        refine e_fl rfl rfl (fun hs_ => PF.mk rfl (v_extract rfl rfl) hs_) ?_
        refine e_fl rfl rfl (fun hs_ => PF.mk rfl (v_extract rfl rfl) hs_) ?_
        refine e_eff rfl (by intro cs b hc; cases hc) (by intro c hc; cases hc) ?_
        refine op_v (v_assign rfl) rfl ?_
        refine ops_nil ?_
        refine e_next rfl side_allA ?_
        refine e_eff rfl (by intro cs b hc; cases hc) (by intro c hc; cases hc) ?_
        refine op_v (v_assign rfl) rfl ?_
        refine ops_nil ?_
        refine e_next rfl side_allA ?_
        refine e_eff rfl (by intro cs b hc; cases hc) (by intro c hc; cases hc) ?_
        refine op_v (v_assign rfl) rfl ?_
        refine ops_nil ?_
        refine e_next rfl (side_nil (by kernel_rfl)) ?_
        refine e_done ?_
        exact post_meet _ ⟨rfl, Imm.leA, rfl⟩ ⟨rfl, rfl, rfl, rfl, rfl, trivial⟩
      · refine op_fcall rfl rfl rfl ((Does.toF (args := [_, _]) (by kernel_rfl) (aw1_does (hv12.mono Imm.leA)))) Parts.none ?_
        rintro v40 I40 _ hI40 ⟨hv40, rfl⟩
        obtain ⟨ra, rc, sa, sc, rfl, hrl, hrr⟩ := hv40
        refine ops_nil ?_
        refine e_next rfl side_allA ?_
        refine e_two rfl (by intro cs b hc; cases hc) (by intro c hc; cases hc) rfl (by intro cs b hc; cases hc) (by intro c hc; cases hc) ?_ ?_
        · refine o_buildSlice (xs := [(Go.Operand.tmp 33), (Go.Operand.tmp 36)]) Try.underlying26 bs49 rfl rfl rfl rfl rfl (fun b37 => ?_)
          refine OpsJ.freezeRow Del.here ?_
          rintro I37 a37 c37 hI37 hq hc37 hl37 hcells37
          cases hq
          refine ops_nil ?_
          refine e_next rfl side_allA ?_
          refine e_eff rfl (by intro cs b hc; cases hc) (by intro c hc; cases hc) ?_
          refine op_fcall rfl rfl rfl ((Does.toF (args := [_, _]) (by kernel_rfl) (aw1_does (hv11.mono Imm.leA)))) Parts.none ?_
          rintro v46 I46 _ hI46 ⟨hv46, rfl⟩
          obtain ⟨ta, tc, ua, uc, rfl, htl, htr⟩ := hv46
          refine ops_nil ?_
          refine e_next rfl side_allA ?_
          refine e_eff rfl (by intro cs b hc; cases hc) (by intro c hc; cases hc) ?_
          refine o_buildSlice (xs := [(Go.Operand.tmp 40), (Go.Operand.tmp 43), (Go.Operand.tmp 46)]) Try.underlying26 bs49 rfl rfl rfl rfl rfl (fun b47 => ?_)
          refine OpsJ.freezeRow Del.here ?_
          rintro I47 a47 c47 hI47 hq hc47 hl47 hcells47
          cases hq
          refine ops_nil ?_
          refine e_next rfl side_allA ?_
          refine e_eff rfl (by intro cs b hc; cases hc) (by intro c hc; cases hc) ?_
          refine op_call pl17 rfl rfl ((Cut_does (c := e15) (d := g15) ⟨some ⟨b37, 0, none⟩, 2, _, rfl, Nat.le_refl _, by decide, hcells37.mono Imm.leA, ⟨_, _, rfl, ⟨pa, pc, qa, qc, rfl, hpl.mono Imm.leA, hpr.mono Imm.leA⟩, _, _, rfl, ⟨a10, c10, a11, c11, rfl, hv10.mono Imm.leA, hv11.mono Imm.leA⟩, rfl⟩⟩ ⟨some ⟨b47, 0, none⟩, 3, _, rfl, Nat.le_refl _, by decide, hcells47.mono Imm.leA, ⟨_, _, rfl, ⟨ra, rc, sa, sc, rfl, hrl.mono Imm.leA, hrr.mono Imm.leA⟩, _, _, rfl, ⟨a11, c11, a12, c12, rfl, hv11.mono Imm.leA, hv12.mono Imm.leA⟩, _, _, rfl, ⟨ta, tc, ua, uc, rfl, htl.mono Imm.leA, htr.mono Imm.leA⟩, rfl⟩⟩ e15_sm g15_sm)) Parts.none ?_
          rintro v48 I48 _ hI48 ⟨hcut, rfl⟩
          have hv48 := hcut.eq eg15_cut
          subst hv48
          refine ops_nil ?_
          refine e_next rfl side_allA ?_
          refine e_fl rfl rfl (fun hs_ => PF.mk rfl (v_move rfl) hs_) ?_
          refine e_fl rfl rfl (fun hs_ => PF.mk rfl (v_extract rfl rfl) hs_) ?_
          refine e_fl rfl rfl (fun hs_ => PF.mk rfl (v_extract rfl rfl) hs_) ?_
          refine e_fl rfl rfl (fun hs_ => PF.mk rfl (v_extract rfl rfl) hs_) ?_
          refine e_eff rfl (by intro cs b hc; cases hc) (by intro c hc; cases hc) ?_
          refine op_v (v_assign rfl) rfl ?_
          refine ops_nil ?_
          refine e_next rfl side_allA ?_
          refine e_eff rfl (by intro cs b hc; cases hc) (by intro c hc; cases hc) ?_
          refine op_v (v_assign rfl) rfl ?_
          refine ops_nil ?_
          refine e_next rfl side_allA ?_
          refine e_eff rfl (by intro cs b hc; cases hc) (by intro c hc; cases hc) ?_
          refine op_v (v_assign rfl) rfl ?_
          refine ops_nil ?_
          refine e_next rfl (side_nil (by kernel_rfl)) ?_
          refine e_done ?_
          exact post_meet _ ⟨rfl, Imm.leA, rfl⟩ ⟨rfl, rfl, rfl, rfl, rfl, trivial⟩
        · refine op_fcall rfl rfl rfl ((Does.toF (args := [_, _]) (by kernel_rfl) (aw1_does (hv11.mono Imm.leA)))) Parts.none ?_
          rintro v46 I46 _ hI46 ⟨hv46, rfl⟩
          obtain ⟨ta, tc, ua, uc, rfl, htl, htr⟩ := hv46
          refine ops_nil ?_
          refine e_next rfl side_allA ?_
          refine e_two rfl (by intro cs b hc; cases hc) (by intro c hc; cases hc) rfl (by intro cs b hc; cases hc) (by intro c hc; cases hc) ?_ ?_
          · refine o_buildSlice (xs := [(Go.Operand.tmp 33), (Go.Operand.tmp 36)]) Try.underlying26 bs49 rfl rfl rfl rfl rfl (fun b37 => ?_)
            refine OpsJ.freezeRow Del.here ?_
            rintro I37 a37 c37 hI37 hq hc37 hl37 hcells37
            cases hq
            refine ops_nil ?_
            refine e_next rfl side_allA ?_
            refine e_eff rfl (by intro cs b hc; cases hc) (by intro c hc; cases hc) ?_
            refine o_buildSlice (xs := [(Go.Operand.tmp 40), (Go.Operand.tmp 43), (Go.Operand.tmp 46)]) Try.underlying26 bs49 rfl rfl rfl rfl rfl (fun b47 => ?_)
            refine OpsJ.freezeRow Del.here ?_
            rintro I47 a47 c47 hI47 hq hc47 hl47 hcells47
            cases hq
            refine ops_nil ?_
            refine e_next rfl side_allA ?_
            refine e_eff rfl (by intro cs b hc; cases hc) (by intro c hc; cases hc) ?_
            refine op_call pl17 rfl rfl ((Cut_does (c := e15) (d := g15) ⟨some ⟨b37, 0, none⟩, 2, _, rfl, Nat.le_refl _, by decide, hcells37.mono Imm.leA, ⟨_, _, rfl, ⟨pa, pc, qa, qc, rfl, hpl.mono Imm.leA, hpr.mono Imm.leA⟩, _, _, rfl, ⟨a10, c10, a11, c11, rfl, hv10.mono Imm.leA, hv11.mono Imm.leA⟩, rfl⟩⟩ ⟨some ⟨b47, 0, none⟩, 3, _, rfl, Nat.le_refl _, by decide, hcells47.mono Imm.leA, ⟨_, _, rfl, ⟨ra, rc, sa, sc, rfl, hrl.mono Imm.leA, hrr.mono Imm.leA⟩, _, _, rfl, ⟨a11, c11, a12, c12, rfl, hv11.mono Imm.leA, hv12.mono Imm.leA⟩, _, _, rfl, ⟨ta, tc, ua, uc, rfl, htl.mono Imm.leA, htr.mono Imm.leA⟩, rfl⟩⟩ e15_sm g15_sm)) Parts.none ?_
            rintro v48 I48 _ hI48 ⟨hcut, rfl⟩
            have hv48 := hcut.eq eg15_cut
            subst hv48
            refine ops_nil ?_
            refine e_next rfl side_allA ?_
            refine e_fl rfl rfl (fun hs_ => PF.mk rfl (v_move rfl) hs_) ?_
            refine e_fl rfl rfl (fun hs_ => PF.mk rfl (v_extract rfl rfl) hs_) ?_
            refine e_fl rfl rfl (fun hs_ => PF.mk rfl (v_extract rfl rfl) hs_) ?_
            refine e_fl rfl rfl (fun hs_ => PF.mk rfl (v_extract rfl rfl) hs_) ?_
            refine e_eff rfl (by intro cs b hc; cases hc) (by intro c hc; cases hc) ?_
            refine op_v (v_assign rfl) rfl ?_
            refine ops_nil ?_
            refine e_next rfl side_allA ?_
            refine e_eff rfl (by intro cs b hc; cases hc) (by intro c hc; cases hc) ?_
            refine op_v (v_assign rfl) rfl ?_
            refine ops_nil ?_
            refine e_next rfl side_allA ?_
            refine e_eff rfl (by intro cs b hc; cases hc) (by intro c hc; cases hc) ?_
            refine op_v (v_assign rfl) rfl ?_
            refine ops_nil ?_
            refine e_next rfl (side_nil (by kernel_rfl)) ?_
            refine e_done ?_
            exact post_meet _ ⟨rfl, Imm.leA, rfl⟩ ⟨rfl, rfl, rfl, rfl, rfl, trivial⟩
          · refine o_buildSlice (xs := [(Go.Operand.tmp 40), (Go.Operand.tmp 43), (Go.Operand.tmp 46)]) Try.underlying26 bs49 rfl rfl rfl rfl rfl (fun b47 => ?_)
            refine OpsJ.freezeRow Del.here ?_
            rintro I47 a47 c47 hI47 hq hc47 hl47 hcells47
            cases hq
            refine ops_nil ?_
            refine e_next rfl side_allA ?_
            refine e_eff rfl (by intro cs b hc; cases hc) (by intro c hc; cases hc) ?_
            refine o_buildSlice (xs := [(Go.Operand.tmp 33), (Go.Operand.tmp 36)]) Try.underlying26 bs49 rfl rfl rfl rfl rfl (fun b37 => ?_)
            refine OpsJ.freezeRow Del.here ?_
            rintro I37 a37 c37 hI37 hq hc37 hl37 hcells37
            cases hq
            refine ops_nil ?_
            refine e_next rfl side_allA ?_
            refine e_eff rfl (by intro cs b hc; cases hc) (by intro c hc; cases hc) ?_
            refine op_call pl17 rfl rfl ((Cut_does (c := e15) (d := g15) ⟨some ⟨b37, 0, none⟩, 2, _, rfl, Nat.le_refl _, by decide, hcells37.mono Imm.leA, ⟨_, _, rfl, ⟨pa, pc, qa, qc, rfl, hpl.mono Imm.leA, hpr.mono Imm.leA⟩, _, _, rfl, ⟨a10, c10, a11, c11, rfl, hv10.mono Imm.leA, hv11.mono Imm.leA⟩, rfl⟩⟩ ⟨some ⟨b47, 0, none⟩, 3, _, rfl, Nat.le_refl _, by decide, hcells47.mono Imm.leA, ⟨_, _, rfl, ⟨ra, rc, sa, sc, rfl, hrl.mono Imm.leA, hrr.mono Imm.leA⟩, _, _, rfl, ⟨a11, c11, a12, c12, rfl, hv11.mono Imm.leA, hv12.mono Imm.leA⟩, _, _, rfl, ⟨ta, tc, ua, uc, rfl, htl.mono Imm.leA, htr.mono Imm.leA⟩, rfl⟩⟩ e15_sm g15_sm)) Parts.none ?_
            rintro v48 I48 _ hI48 ⟨hcut, rfl⟩
            have hv48 := hcut.eq eg15_cut
            subst hv48
            refine ops_nil ?_
            refine e_next rfl side_allA ?_
            refine e_fl rfl rfl (fun hs_ => PF.mk rfl (v_move rfl) hs_) ?_
            refine e_fl rfl rfl (fun hs_ => PF.mk rfl (v_extract rfl rfl) hs_) ?_
            refine e_fl rfl rfl (fun hs_ => PF.mk rfl (v_extract rfl rfl) hs_) ?_
            refine e_fl rfl rfl (fun hs_ => PF.mk rfl (v_extract rfl rfl) hs_) ?_
            refine e_eff rfl (by intro cs b hc; cases hc) (by intro c hc; cases hc) ?_
            refine op_v (v_assign rfl) rfl ?_
            refine ops_nil ?_
            refine e_next rfl side_allA ?_
            refine e_eff rfl (by intro cs b hc; cases hc) (by intro c hc; cases hc) ?_
            refine op_v (v_assign rfl) rfl ?_
            refine ops_nil ?_
            refine e_next rfl side_allA ?_
            refine e_eff rfl (by intro cs b hc; cases hc) (by intro c hc; cases hc) ?_
            refine op_v (v_assign rfl) rfl ?_
            refine ops_nil ?_
            refine e_next rfl (side_nil (by kernel_rfl)) ?_
            refine e_done ?_
            exact post_meet _ ⟨rfl, Imm.leA, rfl⟩ ⟨rfl, rfl, rfl, rfl, rfl, trivial⟩
    · rintro _ J6 _ ⟨rfl, hJ6, rfl⟩
      refine code_seq ?_
      refine code_region ?_
      refine op_v (v_move rfl) rfl ?_
      refine op_v (v_move rfl) rfl ?_
      refine op_want rfl rfl ?_
      refine op_v (v_move rfl) rfl ?_
      first
        | (refine op_want rfl rfl ?_
           refine op_v (v_cmptA rfl rfl rfl) rfl ?_)
        | (refine op_skip rfl rfl (by simp [undef]) rfl ?_)
      refine op_v (v_pickt rfl rfl) rfl ?_
      refine op_v (v_move rfl) rfl ?_
      refine op_want rfl rfl ?_
      refine op_v (v_move rfl) rfl ?_
      first
        | (refine op_want rfl rfl ?_
           refine op_v (v_cmptA rfl rfl rfl) rfl ?_)
        | (refine op_skip rfl rfl (by simp [undef]) rfl ?_)
      refine op_v (v_pickt rfl rfl) rfl ?_
      refine op_v (v_move rfl) rfl ?_
      refine op_want rfl rfl ?_
      refine op_v (v_move rfl) rfl ?_
      refine op_v (v_pickt rfl rfl) rfl ?_
      refine op_v (v_move rfl) rfl ?_
      refine op_want rfl rfl ?_
      refine op_v (v_move rfl) rfl ?_
      refine op_want rfl rfl ?_
      refine op_v (v_move rfl) rfl ?_
      first
        | (refine op_want rfl rfl ?_
           refine op_v (v_cmptA rfl rfl rfl) rfl ?_)
        | (refine op_skip rfl rfl (by simp [undef]) rfl ?_)
      refine op_v (v_pickt rfl rfl) rfl ?_
      refine op_v (v_assign rfl) rfl ?_
      refine ops_nil ?_
      refine post_next ?_
      refine code_ret ?_
      refine post_ret (rs := [.tmp 0]) rfl (List.Perm.refl _) (.cons (.tmp rfl) .nil) (List.nil_sublist _) ?_
      exact ⟨rfl, rfl⟩
theorem FewC.smM {c : List Li} (h : FewC c) : SmM c := fun x hx => by have := h.sides x hx; omega
end Go.Proofs.Ytdbadicpbmndbaa
/- What says more than what says more; what is left of a clause. Plain facts; no condition. -/
set_option linter.unusedVariables false
set_option linter.unusedSimpArgs false
set_option linter.unnecessarySimpa false
namespace Go.Proofs.Ytdbadicpbmndbaa
open Go Lg

/-- which literal goes where -/
def Asg (θ : Int → T) (d : List Li) : List Li → List Nat → Prop
  | [], [] => True
  | a :: r, k :: js => (∃ h : k < d.length, d[k].neg = a.neg ∧ litM θ a d[k]) ∧ Asg θ d r js
  | [], _ :: _ => False
  | _ :: _, [] => False
theorem SubS_iff {θ : Int → T} {d : List Li} : ∀ {c : List Li} {us : List Bool}, SubS θ d us c ↔ ∃ js, Asg θ d c js ∧ js.Nodup ∧ ∀ j ∈ js, us[j]? = some false
  | [], us => ⟨fun _ => ⟨[], trivial, List.nodup_nil, fun j h => by cases h⟩, fun _ => trivial⟩
  | a :: r, us => by
    constructor
    · rintro ⟨k, hk, h1, h2, h3, h4⟩
      obtain ⟨js, e1, e2, e3⟩ := SubS_iff.1 h4
      have hne : ∀ j ∈ js, j ≠ k ∧ us[j]? = some false := fun j hj => by
        have := e3 j hj
        by_cases q : k = j
        · subst q
          have hk2 := (List.getElem?_eq_some_iff.1 h1).1
          rw [List.getElem?_set_self hk2] at this; cases this
        · rw [List.getElem?_set_ne q] at this; exact ⟨fun e => q e.symm, this⟩
      refine ⟨k :: js, ⟨⟨hk, h2, h3⟩, e1⟩, List.nodup_cons.2 ⟨fun hm => (hne k hm).1 rfl, e2⟩, fun j hj => ?_⟩
      rcases List.mem_cons.1 hj with rfl | hj
      · exact h1
      · exact (hne j hj).2
    · rintro ⟨js, e1, e2, e3⟩
      cases js with
      | nil => exact e1.elim
      | cons k js =>
        obtain ⟨⟨hk, h2, h3⟩, h4⟩ := e1
        obtain ⟨hn, e2⟩ := List.nodup_cons.1 e2
        refine ⟨k, hk, e3 k (List.mem_cons_self ..), h2, h3, SubS_iff.2 ⟨js, h4, e2, fun j hj => ?_⟩⟩
        rw [List.getElem?_set_ne (fun e => hn (by rw [e]; exact hj))]
        exact e3 j (List.mem_cons_of_mem _ hj)
theorem freeU_get {n j : Nat} : (freeU n)[j]? = some false ↔ j < n := by
  unfold freeU
  rw [List.getElem?_replicate]
  constructor
  · intro h; split at h; assumption; cases h
  · intro h; rw [if_pos h]
theorem Asg_len {θ : Int → T} {d : List Li} : ∀ {c : List Li} {js : List Nat}, Asg θ d c js → js.length = c.length
  | [], [], _ => rfl
  | _ :: r, _ :: js, h => by simp [Asg_len h.2]
  | [], _ :: _, h => h.elim
  | _ :: _, [], h => h.elim
theorem Asg_get {θ : Int → T} {d : List Li} : ∀ {c : List Li} {js : List Nat}, Asg θ d c js → ∀ (i : Nat) (h1 : i < c.length) (h2 : i < js.length), ∃ h : js[i] < d.length, d[js[i]].neg = c[i].neg ∧ litM θ c[i] d[js[i]]
  | a :: r, k :: js, h, 0, _, _ => h.1
  | a :: r, k :: js, h, i + 1, h1, h2 => by
    have := Asg_get h.2 i (by simpa using h1) (by simpa using h2)
    simpa using this
  | [], _, _, i, h1, _ => by simp at h1
  | _ :: _, [], h, i, _, _ => h.elim
theorem Asg_mem {θ : Int → T} {d : List Li} : ∀ {c : List Li} {js : List Nat}, Asg θ d c js → ∀ j ∈ js, j < d.length
  | [], [], _, j, h => by cases h
  | a :: r, k :: js, h, j, hj => by
    rcases List.mem_cons.1 hj with rfl | hj
    · exact h.1.1
    · exact Asg_mem h.2 j hj
  | [], _ :: _, h, _, _ => h.elim
  | _ :: _, [], h, _, _ => h.elim
theorem Sub_iff {c d : List Li} : Sub c d ↔ ∃ θ js, Asg θ d c js ∧ js.Nodup := by
  unfold Sub
  constructor
  · rintro ⟨θ, h⟩
    obtain ⟨js, e1, e2, _⟩ := SubS_iff.1 h
    exact ⟨θ, js, e1, e2⟩
  · rintro ⟨θ, js, e1, e2⟩
    exact ⟨θ, SubS_iff.2 ⟨js, e1, e2, fun j hj => freeU_get.2 (Asg_mem e1 j hj)⟩⟩
/-! ### one behind the other -/
/-! ### what is left -/
def idθ (v : Int) : T := .mk (-1 - v) []
def RiL (x : Li) : Prop := chkT x.l = 0 ∧ chkT x.r = 0
theorem RiL_of {c : List Li} (h : (sidesL c).any badT = false) : ∀ x ∈ c, RiL x := fun x hx => by
  have key : ∀ t ∈ sidesL c, chkT t = 0 := fun t ht => by
    have := List.any_eq_false.1 h t ht
    unfold badT at this; simpa using this
  exact ⟨key _ (List.mem_flatMap.2 ⟨x, hx, by simp⟩), key _ (List.mem_flatMap.2 ⟨x, hx, by simp⟩)⟩
theorem CutR.cases {c d : List Li} {v : Value} (h : CutR c d v) : ∃ (k : Int) (q : Bool), v = .tuple #[.int .i64 k, .bool q, .int .i64 (wrE c d)] ∧ (q = true → wrE c d = 0 ∧ ∃ (n i : Nat), k = (n : Int) ∧ CutP c d i n) := by
  rcases h with ⟨_, rfl⟩ | ⟨h0, _, rfl⟩ | ⟨h0, k, i, h1, _, rfl⟩
  · exact ⟨_, _, rfl, fun h => by cases h⟩
  · rw [h0]; exact ⟨_, _, rfl, fun h => by cases h⟩
  · rw [h0]; exact ⟨_, _, rfl, fun _ => ⟨rfl, k, i, rfl, h1⟩⟩
end Go.Proofs.Ytdbadicpbmndbaa
/- Walks: the statement that it is an order. -/
set_option linter.unusedVariables false
set_option linter.unusedSimpArgs false
/- short -/
namespace Go.Proofs.Ytdbadicpbmndbaa
open Go Lg

end Go.Proofs.Ytdbadicpbmndbaa
/- Walks: the document's answer on variables, one by one; clauses without variables: the statement. -/
set_option linter.unusedVariables false
set_option linter.unusedSimpArgs false
set_option linter.unnecessarySimpa false
/- short -/
namespace Go.Proofs.Ytdbadicpbmndbaa
open Go Lg

mutual
def uvT : T → List Int
  | .mk h ts => uvL (if h < 0 then [-1 - h] else []) ts
def uvL : List Int → List T → List Int
  | acc, [] => acc
  | acc, t :: r => uvL (uniL acc (uvT t)) r
end
theorem uvL_app : ∀ (a b : List T) (acc : List Int), uvL acc (a ++ b) = uvL (uvL acc a) b
  | [], b, acc => by simp [uvL]
  | t :: r, b, acc => by simp only [List.cons_append, uvL, uvL_app r b]
theorem uvL_take (acc : List Int) (ts : List T) (k : Nat) (h : k < ts.length) : uvL acc (ts.take (k + 1)) = uniL (uvL acc (ts.take k)) (uvT ts[k]) := by
  rw [List.take_succ_eq_append_getElem h, uvL_app]; simp [uvL]
mutual
theorem uvT_len : ∀ t : T, (uvT t).length ≤ t.size
  | .mk h ts => by
    have h1 := uvL_len ts (if h < 0 then [-1 - h] else [])
    have h2 : (if h < 0 then [-1 - h] else []).length ≤ 1 := by split <;> simp
    simp only [uvT, T.size]; omega
theorem uvL_len : ∀ (ts : List T) (acc : List Int), (uvL acc ts).length ≤ acc.length + sizeL ts
  | [], acc => by simp [uvL, sizeL]
  | t :: r, acc => by
    have h1 := uvT_len t
    have h2 := uniL_len acc (uvT t)
    have h3 := uvL_len r (uniL acc (uvT t))
    simp only [uvL, sizeL]; omega
end
theorem RVars2_does : ∀ (n : Nat) (t : T), t.size ≤ n → t.size ≤ 100000 → ∀ (I : Imm) (v : Value), RepT I v t →
    Does Try.prog 113 [v] I [] (fun v I' δ' => RInts I' v (uvT t) ∧ δ' = []) := by
  intro n
  induction n with
  | zero => intro t ht; have := t.size_pos; omega
  | succ n ih =>
    intro t ht hbig I v hv
    obtain ⟨h, ts⟩ := t
    obtain ⟨ad, c, ss, rfl, hr, hc, hb, hat, hsub⟩ := hv.elim
    have hsz : (T.mk h ts).size = 1 + sizeL ts := by simp [T.size]
    have hr0 := hr
    unfold InR at hr0
    refine Does.intro Try.func113 rfl Try.ntmps113 rfl fun w0 => ?_
    refine code_seq ?_
    refine code_region ?_
    refine o_box rfl rfl rfl (fun b1 => ?_)
    refine op_v (v_assign rfl) rfl ?_
    refine ops_nil ?_
    refine post_next ?_
    refine code_seq ?_
    refine code_region ?_
    refine op_v (v_assign rfl) rfl ?_
    refine ops_nil ?_
    refine post_next ?_
    refine code_seq_meet (fun σ' I' δ' => ∃ (ar : Option Addr) (cr : Nat) (ini : List Int), σ' = [(1, .pointer (some ⟨b1, 0, none⟩)), (3, .slice ar ini.length cr)] ∧ I = I' ∧ δ' = [iRow ar cr ini, .box b1 47 [.int .i64 h, .slice ad ts.length c]] ∧ uvT (.mk h ts) = uvL ini ts ∧ ini.length ≤ 1 ∧ ∀ x ∈ ini, InR x) ?_ ?_
    · refine code_seq ?_
      refine code_region ?_
      refine op_v (v_fieldB 0 Try.underlying47 rfl rfl fz3 rfl) rfl ?_
      refine op_v (v_loadA ty3 rfl rfl) rfl ?_
      refine op_v (v_cmp rfl rfl rfl) rfl ?_
      refine ops_nil ?_
      refine post_next ?_
      refine code_cond rfl (fun hc0 => ?_) (fun hc0 => ?_)
      · have h9 : h < 0 := by simpa using hc0
        refine code_region ?_
        refine op_v (v_move rfl) rfl ?_
        refine op_v (v_fieldB 0 Try.underlying47 rfl rfl fz3 rfl) rfl ?_
        refine op_v (v_loadA ty3 rfl rfl) rfl ?_
        refine op_v (v_subb rfl rfl rfl (by omega)) rfl ?_
        refine o_buildSlice (xs := [(Go.Operand.tmp 13)]) Try.underlying62 bs3 rfl rfl rfl rfl rfl (fun b14 => ?_)
        refine OpsJ.view (View.nilRow 3 1) ?_
        refine o_append Try.underlying62 bs3 rfl rfl rfl (fun v' => by repeat (first | exact Swap.here | apply Swap.there)) (Src.ofRow (by repeat (first | exact Has.here | apply Has.there)) rfl) (by first | rfl | omega | simp) (by simp [cat, cellsL, Value.oneCell']) (by omega) (by omega) (fun a15 c15 => ?_)
        refine op_v (v_assign rfl) rfl ?_
        refine ops_nil ?_
        refine PostJ.view (View.drop (Del.there Del.here)) ?_
        refine post_meet _ ⟨a15, c15, [-1 - h], rfl, rfl, by simp [iRow, cat, cellsL], by simp only [uvT]; rw [if_pos h9], by simp, fun x hx => by simp at hx; subst hx; unfold InR; omega⟩ ⟨rfl, rfl, trivial⟩
      · have h9 : ¬ h < 0 := by simpa using hc0
        refine code_skip ?_
        refine PostJ.view (View.nilRow 3 1) ?_
        refine post_meet _ ⟨none, 0, [], rfl, rfl, rfl, by simp only [uvT]; rw [if_neg h9], by simp, fun x hx => by cases hx⟩ ⟨rfl, rfl, trivial⟩
    · rintro _ _ _ ⟨ar, cr, ini, rfl, rfl, rfl, hue, hil, hin0⟩
      refine code_seq ?_
      refine code_seq ?_
      refine code_region ?_
      refine op_v (v_assign rfl) rfl ?_
      refine ops_nil ?_
      refine post_next ?_
      refine code_block ?_
      refine code_loop (fun m σ' I' δ' => ∃ (k : Nat) (ar : Option Addr) (cr : Nat), m = ts.length - k ∧ k ≤ ts.length ∧ σ' = [(1, .pointer (some ⟨b1, 0, none⟩)), (3, .slice ar (uvL ini (ts.take k)).length cr), (4, .int .i64 k)] ∧ I.le I' ∧ δ' = [iRow ar cr (uvL ini (ts.take k)), .box b1 47 [.int .i64 h, .slice ad ts.length c]] ∧ ∀ x ∈ uvL ini (ts.take k), InR x) ts.length [(1, .pointer (some ⟨b1, 0, none⟩)), (3, .slice ar ini.length cr), (4, .int .i64 (0 : Nat))] ⟨0, ar, cr, rfl, Nat.zero_le _, rfl, Imm.le_refl _, rfl, hin0⟩ ⟨rfl, rfl, rfl, trivial⟩ ?_
      rintro m _ I0 _ ⟨k, ar, cr, rfl, hk, rfl, hI0, rfl, hin⟩
      have hgl := uvL_len (ts.take k) ini
      refine code_seq ?_
      refine code_seq ?_
      refine code_region ?_
      refine op_v (v_move rfl) rfl ?_
      refine op_v (v_fieldB 1 Try.underlying47 rfl rfl fz45 rfl) rfl ?_
      refine op_v (v_loadA ty45 rfl rfl) rfl ?_
      refine op_v (v_len Try.underlying45 rfl) rfl ?_
      refine op_v (v_cmp rfl rfl rfl) rfl ?_
      refine ops_nil ?_
      refine post_next ?_
      refine code_cond rfl (fun hc1 => ?_) (fun hc1 => ?_)
      · have hlt : k < ts.length := by simpa using hc1
        have hs1 := (hat k hlt).isSome
        have hm := sizeL_mem ts k hlt
        have hst := sizeL_take ts k hlt
        have hsd : sizeL (ts.take (k + 1)) + sizeL (ts.drop (k + 1)) = sizeL ts := by rw [← sizeL_app, List.take_append_drop]
        have hvt := uvL_take ini ts k hlt
        have hpl := uvT_len ts[k]
        refine code_skip ?_
        refine post_next ?_
        refine code_seq ?_
        refine code_block ?_
        refine code_seq ?_
        refine code_region ?_
        refine op_v (v_fieldB 1 Try.underlying47 rfl rfl fz45 rfl) rfl ?_
        refine op_v (v_loadA ty45 rfl rfl) rfl ?_
        refine op_v (v_move rfl) rfl ?_
        refine op_v (v_indexA Try.underlying45 sz47 rfl rfl) rfl ?_
        refine op_v (v_loadI0 ty47 ((hat k hlt).mono hI0) rfl rfl rfl) rfl ?_
        refine op_call pl113 rfl rfl ((ih ts[k] (by omega) (by omega) _ _ ((hsub k hlt).mono hI0))) Parts.none ?_
        rintro v28 I28 _ hI28 ⟨hv28, rfl⟩
        have hn28 := hv28.len
        obtain ⟨va, vc, rfl⟩ := hv28.shape
        refine op_v (v_assign rfl) rfl ?_
        refine ops_nil ?_
        refine post_next ?_
        refine code_seq ?_
        refine code_region ?_
        refine op_v (v_assign rfl) rfl ?_
        refine ops_nil ?_
        refine post_next ?_
        refine code_block ?_
        refine code_loop (fun m σ' I' δ' => ∃ (j : Nat) (ar : Option Addr) (cr : Nat), m = (uvT ts[k]).length - j ∧ j ≤ (uvT ts[k]).length ∧ σ' = [(1, .pointer (some ⟨b1, 0, none⟩)), (3, .slice ar (uniL (uvL ini (ts.take k)) ((uvT ts[k]).take j)).length cr), (4, .int .i64 k), (5, .slice va (uvT ts[k]).length vc), (6, .int .i64 j)] ∧ I28.le I' ∧ δ' = [iRow ar cr (uniL (uvL ini (ts.take k)) ((uvT ts[k]).take j)), .box b1 47 [.int .i64 h, .slice ad ts.length c]] ∧ ∀ x ∈ uniL (uvL ini (ts.take k)) ((uvT ts[k]).take j), InR x) (uvT ts[k]).length [(1, .pointer (some ⟨b1, 0, none⟩)), (3, .slice ar (uvL ini (ts.take k)).length cr), (4, .int .i64 k), (5, .slice va (uvT ts[k]).length vc), (6, .int .i64 (0 : Nat))] ⟨0, ar, cr, rfl, Nat.zero_le _, rfl, Imm.le_refl _, rfl, hin⟩ ⟨rfl, rfl, rfl, rfl, rfl, trivial⟩ ?_
        rintro m _ I1 _ ⟨j, ar, cr, rfl, hj, rfl, hI1, rfl, hin2⟩
        have hul := uniL_len (uvL ini (ts.take k)) ((uvT ts[k]).take j)
        rw [List.length_take] at hul
        refine code_seq ?_
        refine code_seq ?_
        refine code_region ?_
        refine op_v (v_move rfl) rfl ?_
        refine op_v (v_move rfl) rfl ?_
        refine op_v (v_len Try.underlying62 rfl) rfl ?_
        refine op_v (v_cmp rfl rfl rfl) rfl ?_
        refine ops_nil ?_
        refine post_next ?_
        refine code_cond rfl (fun hc2 => ?_) (fun hc2 => ?_)
        · have hjl : j < (uvT ts[k]).length := by simpa using hc2
          have hatj := hv28.atI j hjl
          have hs2 := hatj.isSome
          have hut := uniL_take (uvL ini (ts.take k)) (uvT ts[k]) j hjl
          have hinj := hn28.2 _ (List.getElem_mem hjl)
          refine code_skip ?_
          refine post_next ?_
          refine code_seq ?_
          refine code_block ?_
          refine code_seq ?_
          refine code_region ?_
          refine op_v (v_move rfl) rfl ?_
          refine op_v (v_move rfl) rfl ?_
          refine op_v (v_indexA Try.underlying62 sz3 rfl rfl) rfl ?_
          refine op_v (v_loadI0 ty3 (hatj.mono hI1) rfl rfl rfl) rfl ?_
          refine op_v (v_move rfl) rfl ?_
          refine op_call pl54 rfl rfl ((In_does (by omega))) (Parts.one Del.here) ?_
          rintro v40 I40 _ hI40 ⟨rfl, rfl⟩
          by_cases hm41 : (uvT ts[k])[j] ∈ uniL (uvL ini (ts.take k)) ((uvT ts[k]).take j)
          · rw [decide_eq_true hm41]
            have hae : addN (uniL (uvL ini (ts.take k)) ((uvT ts[k]).take j)) (uvT ts[k])[j] = uniL (uvL ini (ts.take k)) ((uvT ts[k]).take j) := if_pos hm41
            rw [hae] at hut
            refine op_v (v_not rfl) rfl ?_
            refine ops_nil ?_
            refine post_next ?_
            refine code_cond_f rfl ?_
            refine code_skip ?_
            refine post_out ?_
            refine post_next ?_
            refine code_region ?_
            refine op_v (v_move rfl) rfl ?_
            refine op_v (v_addb rfl rfl rfl (by omega)) rfl ?_
            refine op_v (v_assign rfl) rfl ?_
            refine ops_nil ?_
            refine post_again ((uvT ts[k]).length - (j + 1)) [(1, .pointer (some ⟨b1, 0, none⟩)), (3, .slice ar (uniL (uvL ini (ts.take k)) ((uvT ts[k]).take j)).length cr), (4, .int .i64 k), (5, .slice va (uvT ts[k]).length vc), (6, .int .i64 (j + 1 : Nat))] (by omega) ⟨j + 1, ar, cr, rfl, hjl, by rw [hut], Imm.leA, by rw [hut]; rfl, by rw [hut]; exact hin2⟩ ⟨rfl, rfl, rfl, rfl, rfl, trivial⟩
          · rw [decide_eq_false hm41]
            have hae : addN (uniL (uvL ini (ts.take k)) ((uvT ts[k]).take j)) (uvT ts[k])[j] = uniL (uvL ini (ts.take k)) ((uvT ts[k]).take j) ++ [(uvT ts[k])[j]] := if_neg hm41
            rw [hae] at hut
            refine op_v (v_not rfl) rfl ?_
            refine ops_nil ?_
            refine post_next ?_
            refine code_cond_t rfl ?_
            refine code_region ?_
            refine op_v (v_move rfl) rfl ?_
            refine op_v (v_move rfl) rfl ?_
            refine op_v (v_move rfl) rfl ?_
            refine op_v (v_indexA Try.underlying62 sz3 rfl rfl) rfl ?_
            refine op_v (v_loadI0 ty3 (hatj.mono Imm.leA) rfl rfl rfl) rfl ?_
            refine o_buildSlice (xs := [(Go.Operand.tmp 46)]) Try.underlying62 bs3 rfl rfl rfl rfl rfl (fun b47 => ?_)
            refine o_append Try.underlying62 bs3 rfl rfl rfl (fun v' => by repeat (first | exact Swap.here | apply Swap.there)) (Src.ofRow (by repeat (first | exact Has.here | apply Has.there)) rfl) (by first | rfl | omega | simp) (by simp [cat, cellsL, Value.oneCell']) (by omega) (by omega) (fun a48 c48 => ?_)
            refine op_v (v_assign rfl) rfl ?_
            refine ops_nil ?_
            refine post_out ?_
            refine post_next ?_
            refine code_region ?_
            refine op_v (v_move rfl) rfl ?_
            refine op_v (v_addb rfl rfl rfl (by omega)) rfl ?_
            refine op_v (v_assign rfl) rfl ?_
            refine ops_nil ?_
            refine PostJ.view (View.drop Del.here) ?_
            refine post_again ((uvT ts[k]).length - (j + 1)) [(1, .pointer (some ⟨b1, 0, none⟩)), (3, .slice a48 ((uniL (uvL ini (ts.take k)) ((uvT ts[k]).take j)).length + 1) c48), (4, .int .i64 k), (5, .slice va (uvT ts[k]).length vc), (6, .int .i64 (j + 1 : Nat))] (by omega) ⟨j + 1, a48, c48, rfl, hjl, by rw [hut]; simp, Imm.leA, by rw [hut]; simp [iRow, cat, cellsL], by rw [hut]; intro x hx; rcases List.mem_append.1 hx with h | h; exact hin2 x h; simp at h; subst h; exact hinj⟩ ⟨rfl, rfl, rfl, rfl, rfl, trivial⟩
        · have hjg : j = (uvT ts[k]).length := by simp at hc2; omega
          subst hjg
          rw [List.take_length, ← hvt] at hin2
          rw [List.take_length, ← hvt]
          refine code_exit ?_
          refine post_exit_then ?_
          refine post_exit_then ?_
          refine post_exit ?_
          refine post_out ?_
          refine post_next ?_
          refine code_region ?_
          refine op_v (v_move rfl) rfl ?_
          refine op_v (v_addb rfl rfl rfl (by omega)) rfl ?_
          refine op_v (v_assign rfl) rfl ?_
          refine ops_nil ?_
          refine post_again (ts.length - (k + 1)) [(1, .pointer (some ⟨b1, 0, none⟩)), (3, .slice ar (uvL ini (ts.take (k + 1))).length cr), (4, .int .i64 (k + 1 : Nat))] (by omega) ⟨k + 1, ar, cr, rfl, hlt, rfl, Imm.leA, rfl, hin2⟩ ⟨rfl, rfl, rfl, trivial⟩
      · have hge : k = ts.length := by simp at hc1; omega
        subst hge
        rw [List.take_length] at hin hgl
        rw [List.take_length]
        refine code_exit ?_
        refine post_exit_then ?_
        refine post_exit_then ?_
        refine post_exit ?_
        refine post_next ?_
        refine code_seq ?_
        refine code_region ?_
        refine OpsJ.freezeRow Del.here ?_
        rintro I49 ar2 cr2 hI49 hvr hcr hlr hcells
        cases hvr
        refine op_v (v_move rfl) rfl ?_
        refine op_v (v_assign rfl) rfl ?_
        refine ops_nil ?_
        refine post_next ?_
        refine code_ret ?_
        refine post_ret (rs := [.tmp 2]) rfl (List.Perm.refl _) (.cons (.tmp rfl) .nil) (List.nil_sublist _) ?_
        exact ⟨by rw [hue]; exact RInts.of rfl hcr (by omega) hcells hin, rfl⟩
/-! ### plain: without variables -/
theorem hdsL_eq2 : ∀ ts : List T, (visL ts).map (·.2.head) = ts.flatMap hds
  | [] => rfl
  | t :: r => by
    rw [visL, List.map_append, hdsL_eq2 r, List.flatMap_cons]
    congr 1
    unfold hds
    rw [visT_eq, visT_eq]; rfl
theorem hds_eq2 (h : Int) (ts : List T) : hds (.mk h ts) = h :: ts.flatMap hds := by
  have : hds (.mk h ts) = h :: (visL ts).map (·.2.head) := by unfold hds; rw [visT_eq]; rfl
  rw [this, hdsL_eq2]
end Go.Proofs.Ytdbadicpbmndbaa
/- Terms and clauses with other variables: plainly, and walks: Shift, Apart. -/
set_option linter.unusedVariables false
set_option linter.unusedSimpArgs false
set_option linter.unnecessarySimpa false
/- short -/
namespace Go.Proofs.Ytdbadicpbmndbaa
open Go Lg

/-! ### plain -/
theorem chk_hds {t : T} (h : chkT t = 0) : ∀ k ∈ hds t, -256 ≤ k := fun k hk => by
  obtain ⟨x, hx, rfl⟩ := List.mem_map.1 hk
  exact (chk_vis h x hx).2
theorem varsP_get : ∀ {l : List (Nat × T)} {v : Int}, v ∈ varsP l → ∃ x ∈ l, x.2.head = -1 - v ∧ 0 ≤ v := by
  intro l
  induction l using snoc_ind with
  | h0 => intro v h; cases h
  | h1 l y ih =>
    intro v h
    rw [varsP_snoc] at h
    split at h
    · rename_i hy
      rcases List.mem_append.1 h with h | h
      · obtain ⟨x, hx, e⟩ := ih h; exact ⟨x, List.mem_append_left _ hx, e⟩
      · simp at h; subst h
        exact ⟨y, by simp, by omega, hy.1⟩
    · obtain ⟨x, hx, e⟩ := ih h; exact ⟨x, List.mem_append_left _ hx, e⟩
theorem parts_hds {t : T} {x : Nat × T} (hx : x ∈ partsT 1 t) : x.2.head ∈ hds t := by
  have h2 : x.2 ∈ (partsT 1 t).map (·.2) := List.mem_map_of_mem (f := fun x : Nat × T => x.2) hx
  rw [snd_T 1 true t] at h2
  obtain ⟨y, hy, e⟩ := List.mem_map.1 h2
  rw [← e]; exact List.mem_map_of_mem (f := fun x : Bool × T => x.2.head) hy
theorem varsGo_get : ∀ {ts : List T} {acc : List Int} {v : Int}, v ∈ varsGo acc ts → v ∈ acc ∨ ∃ t ∈ ts, v ∈ varsP (partsT 1 t)
  | [], acc, v, h => .inl h
  | t :: r, acc, v, h => by
    rcases varsGo_get (ts := r) (acc := uniL acc (varsP (partsT 1 t))) h with h | ⟨u, hu, h⟩
    · rcases (uniL_mem _ _ _).1 h with h | h
      · exact .inl h
      · exact .inr ⟨t, List.mem_cons_self .., h⟩
    · exact .inr ⟨u, List.mem_cons_of_mem _ hu, h⟩
theorem varsC_in {c : List Li} (h : (sidesL c).any badT = false) : ∀ v ∈ varsC c, 0 ≤ v ∧ v ≤ 255 := fun v hv => by
  rcases varsGo_get hv with h | ⟨t, ht, hv⟩
  · cases h
  · obtain ⟨x, hx, e, h0⟩ := varsP_get hv
    have hb : badT t = false := by simpa using List.any_eq_false.1 h t ht
    have hc : chkT t = 0 := by unfold badT at hb; simpa using hb
    have := chk_hds hc _ (parts_hds hx)
    omega
/-! ### walks -/
end Go.Proofs.Ytdbadicpbmndbaa
/- What stands apart: its variables, its Norm. Plain facts; no condition. -/
set_option linter.unusedVariables false
set_option linter.unusedSimpArgs false
set_option linter.unnecessarySimpa false
namespace Go.Proofs.Ytdbadicpbmndbaa
open Go Lg

/-! ### without variables -/
theorem varsP_has : ∀ {l : List (Nat × T)} {x : Nat × T}, x ∈ l → x.2.head < 0 → -1 - x.2.head ∈ varsP l := by
  intro l
  induction l using snoc_ind with
  | h0 => intro x h; cases h
  | h1 l y ih =>
    intro x h hx
    rw [varsP_snoc]
    rcases List.mem_append.1 h with h | h
    · have := ih h hx
      split
      · exact List.mem_append_left _ this
      · exact this
    · simp at h; subst h
      split
      · simp
      · rename_i hn
        by_cases hm : -1 - x.2.head ∈ varsP l
        · exact hm
        · exact absurd ⟨by omega, hm⟩ hn
theorem hds_parts {t : T} {k : Int} (hk : k ∈ hds t) : ∃ x ∈ partsT 1 t, x.2.head = k := by
  obtain ⟨y, hy, rfl⟩ := List.mem_map.1 hk
  have h2 : y.2 ∈ (visT true t).map (·.2) := List.mem_map_of_mem (f := fun x : Bool × T => x.2) hy
  rw [← snd_T 1 true t] at h2
  obtain ⟨x, hx, e⟩ := List.mem_map.1 h2
  exact ⟨x, hx, by rw [e]⟩
/-! ### variables are greater -/
/-! ### the same Norm -/
end Go.Proofs.Ytdbadicpbmndbaa
/- Variables numbered by binds, and what stands apart, as the document has it. Plain facts; no condition. -/
set_option linter.unusedVariables false
set_option linter.unusedSimpArgs false
set_option linter.unnecessarySimpa false
namespace Go.Proofs.Ytdbadicpbmndbaa
open Go Lg

def numB (vs : List Int) : List Bi := vs.zipIdx.map fun x => (x.1, T.mk (-1 - (x.2 : Int)) [])
theorem ofB_num (vs : List Int) (v : Int) : ofB (numB vs) v = if v ∈ vs then some (.mk (-1 - (numOf vs v : Int)) []) else none := by
  have key : ∀ (vs : List Int) (j : Nat), ofB ((vs.zipIdx j).map fun x => (x.1, T.mk (-1 - (x.2 : Int)) [])) v = if v ∈ vs then some (.mk (-1 - ((j + numOf vs v : Nat) : Int)) []) else none := by
    intro vs
    induction vs with
    | nil => intro j; simp [ofB]
    | cons x r ih =>
      intro j
      simp only [List.zipIdx_cons, List.map_cons, ofB, numOf]
      by_cases e : x = v
      · rw [if_pos e, if_pos e, if_pos (by simp [e])]; simp
      · rw [if_neg e, if_neg e, ih (j + 1)]
        by_cases m : v ∈ r
        · rw [if_pos m, if_pos (by simp [m])]; congr 4; omega
        · rw [if_neg m, if_neg (by simp [m]; exact fun q => e q.symm)]
  have := key vs 0
  rw [Nat.zero_add] at this
  exact this
mutual
theorem renT_pre : ∀ (t : T) (ns : List Int), ∃ ms, (renT ns t).2 = ns ++ ms
  | .mk h ts, ns => by
    simp only [renT]
    split
    · exact addN_pre _ _
    · exact renL_pre ts ns
theorem renL_pre : ∀ (ts : List T) (ns : List Int), ∃ ms, (renL ns ts).2 = ns ++ ms
  | [], ns => ⟨[], by simp [renL]⟩
  | t :: r, ns => by
    obtain ⟨m1, h1⟩ := renT_pre t ns
    obtain ⟨m2, h2⟩ := renL_pre r (renT ns t).2
    exact ⟨m1 ++ m2, by simp only [renL]; rw [h2, h1, List.append_assoc]⟩
end
mutual
theorem sb_renT : ∀ (t : T) (ns fin : List Int), (∃ ms, fin = (renT ns t).2 ++ ms) → sbT (numB fin) t = (renT ns t).1
  | .mk h ts, ns, fin, hf => by
    unfold sbT
    simp only [renT, rbT] at hf ⊢
    by_cases q : h < 0
    · rw [if_pos q] at hf ⊢
      rw [if_pos q]
      obtain ⟨ms, hf⟩ := hf
      simp only at hf
      have hm : (-1 - h) ∈ fin := by rw [hf]; exact List.mem_append_left _ (addN_mem _ _)
      unfold ofT
      simp only [T.head]
      rw [ofB_num, if_pos hm, Option.getD_some, hf, numOf_app _ (addN_mem _ _)]
    · rw [if_neg q] at hf ⊢
      rw [if_neg q]
      have := sb_renL ts ns fin hf
      simp only at this ⊢
      rw [this]
theorem sb_renL : ∀ (ts : List T) (ns fin : List Int), (∃ ms, fin = (renL ns ts).2 ++ ms) → rbL (ofT (numB fin)) ts = (renL ns ts).1
  | [], ns, fin, _ => by simp [rbL, renL]
  | t :: r, ns, fin, hf => by
    simp only [renL, rbL] at hf ⊢
    obtain ⟨ms, hf⟩ := hf
    obtain ⟨m2, h2⟩ := renL_pre r (renT ns t).2
    have e1 := sb_renT t ns fin ⟨m2 ++ ms, by rw [hf, h2, List.append_assoc]⟩
    have e2 := sb_renL r (renT ns t).2 fin ⟨ms, hf⟩
    unfold sbT at e1
    rw [e1, e2]
end
theorem addN_uni (ns a : List Int) (x : Int) : uniL ns (addN a x) = addN (uniL ns a) x := by
  by_cases h : x ∈ a
  · have h2 : x ∈ uniL ns a := (uniL_mem _ _ _).2 (.inr h)
    unfold addN; rw [if_pos h, if_pos h2]
  · conv => lhs; unfold addN
    rw [if_neg h, uniL_app]; rfl
theorem uniL_uni (ns a : List Int) : ∀ l : List Int, uniL ns (uniL a l) = uniL (uniL ns a) l := by
  intro l
  induction l generalizing a with
  | nil => rfl
  | cons x r ih =>
    show uniL ns (uniL (addN a x) r) = uniL (addN (uniL ns a) x) r
    rw [ih, addN_uni]
theorem uniL_uvL (ns : List Int) : ∀ (ts : List T) (a : List Int), uvL (uniL ns a) ts = uniL ns (uvL a ts)
  | [], a => by simp [uvL]
  | t :: r, a => by
    simp only [uvL]
    rw [← uniL_uvL ns r (uniL a (uvT t)), uniL_uni]
mutual
theorem ren_uvT : ∀ (t : T) (ns : List Int), chkT t = 0 → (renT ns t).2 = uniL ns (uvT t)
  | .mk h ts, ns, hc => by
    obtain ⟨h1, h2⟩ := chkT_args hc
    simp only [renT, uvT]
    by_cases q : h < 0
    · rw [if_pos q, if_pos q, h1 q]; rfl
    · rw [if_neg q, if_neg q]
      show (renL ns ts).2 = _
      rw [ren_uvL ts ns fun k hk => h2 k hk]
      exact uniL_uvL ns ts []
theorem ren_uvL : ∀ (ts : List T) (ns : List Int), (∀ k (hk : k < ts.length), chkT ts[k] = 0) → (renL ns ts).2 = uvL ns ts
  | [], ns, _ => by simp [renL, uvL]
  | t :: r, ns, hc => by
    simp only [renL, uvL]
    rw [ren_uvT t ns (hc 0 (by simp)), ren_uvL r _ fun k hk => by have := hc (k + 1) (by simpa using hk); simpa using this]
end
theorem any_bad {ts : List T} (h : ts.any badT = false) : ∀ t ∈ ts, chkT t = 0 := fun t ht => by
  have := List.any_eq_false.1 h t ht
  unfold badT at this; simpa using this
theorem norm_put {c : List Li} (h : (sidesL c).any badT = false) : rbL (ofT (numB (uvL [] (sidesL c)))) (sidesL c) = (renL [] (sidesL c)).1 :=
  sb_renL _ [] _ ⟨[], by rw [List.append_nil, ren_uvL _ _ fun k hk => any_bad h _ (List.getElem_mem hk)]⟩
def putC (bs : List Bi) (c : List Li) : List Li := c.map fun x => ⟨x.neg, sbT bs x.l, sbT bs x.r⟩
theorem ofL_put (f : T → T) : ∀ c : List Li, ofL c (rbL f (sidesL c)) = c.map fun x => ⟨x.neg, rbT f x.l, rbT f x.r⟩
  | [] => rfl
  | x :: r => by
    show ofL (x :: r) (rbL f (x.l :: x.r :: sidesL r)) = _
    simp only [rbL, ofL, List.map_cons, ofL_put f r]
theorem norm_putC {c : List Li} (h : (sidesL c).any badT = false) : putC (numB (uvL [] (sidesL c))) c = normC c := by
  unfold normC; rw [← norm_put h, ofL_put]; rfl
/-! ### the same variables -/
mutual
theorem uvT_mem : ∀ (t : T) (v : Int), v ∈ uvT t ↔ ∃ k ∈ hds t, k < 0 ∧ v = -1 - k
  | .mk h ts, v => by
    simp only [uvT]
    rw [uvL_mem ts _ v, hds_eq2]
    constructor
    · rintro (h1 | ⟨k, hk, h1⟩)
      · split at h1
        · rename_i q; simp at h1; exact ⟨h, List.mem_cons_self .., q, h1⟩
        · cases h1
      · exact ⟨k, List.mem_cons_of_mem _ hk, h1⟩
    · rintro ⟨k, hk, h1, h2⟩
      rcases List.mem_cons.1 hk with rfl | hk
      · left; rw [if_pos h1]; simp [h2]
      · right; exact ⟨k, hk, h1, h2⟩
theorem uvL_mem : ∀ (ts : List T) (acc : List Int) (v : Int), v ∈ uvL acc ts ↔ v ∈ acc ∨ ∃ k ∈ ts.flatMap hds, k < 0 ∧ v = -1 - k
  | [], acc, v => by simp [uvL]
  | t :: r, acc, v => by
    simp only [uvL]
    rw [uvL_mem r _ v, uniL_mem, uvT_mem t v, List.flatMap_cons]
    constructor
    · rintro ((h | ⟨k, hk, h⟩) | ⟨k, hk, h⟩)
      · exact .inl h
      · exact .inr ⟨k, List.mem_append_left _ hk, h⟩
      · exact .inr ⟨k, List.mem_append_right _ hk, h⟩
    · rintro (h | ⟨k, hk, h⟩)
      · exact .inl (.inl h)
      · rcases List.mem_append.1 hk with q | q
        · exact .inl (.inr ⟨k, q, h⟩)
        · exact .inr ⟨k, q, h⟩
end
theorem varsP_mem {t : T} {v : Int} : v ∈ varsP (partsT 1 t) ↔ ∃ k ∈ hds t, k < 0 ∧ v = -1 - k := by
  constructor
  · intro h
    obtain ⟨x, hx, e, h0⟩ := varsP_get h
    exact ⟨x.2.head, parts_hds hx, by omega, by omega⟩
  · rintro ⟨k, hk, h0, rfl⟩
    obtain ⟨x, hx, rfl⟩ := hds_parts hk
    exact varsP_has hx h0
theorem varsGo_mem : ∀ (ts : List T) (acc : List Int) (v : Int), v ∈ varsGo acc ts ↔ v ∈ acc ∨ ∃ k ∈ ts.flatMap hds, k < 0 ∧ v = -1 - k
  | [], acc, v => by simp [varsGo]
  | t :: r, acc, v => by
    show v ∈ varsGo (uniL acc (varsP (partsT 1 t))) r ↔ _
    rw [varsGo_mem r _ v, uniL_mem, varsP_mem, List.flatMap_cons]
    constructor
    · rintro ((h | ⟨k, hk, h⟩) | ⟨k, hk, h⟩)
      · exact .inl h
      · exact .inr ⟨k, List.mem_append_left _ hk, h⟩
      · exact .inr ⟨k, List.mem_append_right _ hk, h⟩
    · rintro (h | ⟨k, hk, h⟩)
      · exact .inl (.inl h)
      · rcases List.mem_append.1 hk with q | q
        · exact .inl (.inr ⟨k, q, h⟩)
        · exact .inr ⟨k, q, h⟩
theorem uv_vars (c : List Li) (v : Int) : v ∈ uvL [] (sidesL c) ↔ v ∈ varsC c := by
  unfold varsC; rw [uvL_mem, varsGo_mem]
/-! ### what stands apart -/
end Go.Proofs.Ytdbadicpbmndbaa
/- Which literals are maximal: plainly, and walks: terms put into clauses, Maximal. -/
set_option linter.unusedVariables false
set_option linter.unusedSimpArgs false
set_option linter.unnecessarySimpa false
/- short -/
namespace Go.Proofs.Ytdbadicpbmndbaa
open Go Lg

/-! ### terms put into a clause -/
def OutC (bs : List Bi) (c : List Li) (e : Int) (ys : List Li) : Prop :=
  (32 < c.length ∧ e = 2 ∧ ys = []) ∨ (c.length ≤ 32 ∧ ((∃ (k : Nat) (hk : k < c.length) (zs : List Li) (y : Li), (zs.length = k ∧ ∀ i (h : i < k) (h2 : i < zs.length), OutL bs c[i] 0 zs[i]) ∧ OutL bs c[k] e y ∧ e ≠ 0 ∧ ys = []) ∨ (e = 0 ∧ ys.length = c.length ∧ ∀ i (h : i < c.length) (h2 : i < ys.length), OutL bs c[i] 0 ys[i])))
theorem OutC.eq {bs : List Bi} {c ys zs : List Li} {e f : Int} (h : OutC bs c e ys) (k : OutC bs c f zs) : e = f ∧ ys = zs := by
  rcases h with ⟨h1, rfl, rfl⟩ | ⟨h1, h⟩ <;> rcases k with ⟨k1, rfl, rfl⟩ | ⟨k1, k⟩
  · exact ⟨rfl, rfl⟩
  · omega
  · omega
  · rcases h with ⟨i, hi, us, y, ⟨hul, hu⟩, hy, he, rfl⟩ | ⟨rfl, hl, hall⟩ <;> rcases k with ⟨j, hj, ws, z, ⟨hwl, hw⟩, hz, hf, rfl⟩ | ⟨rfl, hm, hbll⟩
    · rcases Nat.lt_trichotomy i j with q | q | q
      · exact absurd ((hy.eq (hw i q (by omega))).1) he
      · subst q; exact ⟨(hy.eq hz).1, rfl⟩
      · exact absurd ((hz.eq (hu j q (by omega))).1) hf
    · exact absurd ((hy.eq (hbll i hi (by omega))).1) he
    · exact absurd ((hz.eq (hall j hj (by omega))).1) hf
    · exact ⟨rfl, List.ext_getElem (by omega) fun i h1 h2 => ((hall i (by omega) h1).eq (hbll i (by omega) h2)).2⟩
theorem OutC.sm {bs : List Bi} {c ys : List Li} {e : Int} (h : OutC bs c e ys) : SmC ys := by
  rcases h with ⟨_, _, rfl⟩ | ⟨_, ⟨_, _, _, _, _, _, _, rfl⟩ | ⟨_, hl, hall⟩⟩
  · intro x hx; cases hx
  · intro x hx; cases hx
  · intro x hx
    obtain ⟨i, hi, rfl⟩ := List.getElem_of_mem hx
    exact (hall i (by omega) hi).size
theorem CApply_does {I : Imm} {vs v : Value} {bs : List Bi} {c : List Li} (hs : RepB I vs bs) (hv : RepC I v c) (hbs : ∀ b ∈ bs, b.2.size ≤ 500) (hsz : ∀ x ∈ c, x.l.size ≤ 500 ∧ x.r.size ≤ 500) :
    Does Try.prog 36 [vs, v] I [] (fun v I' δ' => (∃ e ys r, v = .tuple #[r, .int .i64 e] ∧ RepC I' r ys ∧ OutC bs c e ys) ∧ δ' = []) := by
  obtain ⟨sa, sc, rfl⟩ := hs.shape
  obtain ⟨ad, c0, xs, rfl, hc, hb, hcells, hrow⟩ := hv
  refine Does.intro Try.func36 rfl Try.ntmps36 rfl fun w0 => ?_
  refine code_seq ?_
  refine code_region ?_
  refine op_v (v_assign rfl) rfl ?_
  refine op_v (v_assign rfl) rfl ?_
  refine ops_nil ?_
  refine post_next ?_
  refine code_seq ?_
  refine code_seq ?_
  refine code_region ?_
  refine op_v (v_move rfl) rfl ?_
  refine op_v (v_len Try.underlying26 rfl) rfl ?_
  by_cases h13 : 32 < c.length
  · refine op_v (v_cmpt rfl rfl rfl (by omega)) rfl ?_
    refine ops_nil ?_
    refine post_next ?_
    refine code_cond_t rfl ?_
    refine code_seq ?_
    refine code_region ?_
    refine op_v (v_assign rfl) rfl ?_
    refine op_v (v_assign rfl) rfl ?_
    refine ops_nil ?_
    refine post_next ?_
    refine code_ret ?_
    refine post_ret_then ?_
    refine post_ret (rs := [.tmp 4, .tmp 5]) rfl (List.Perm.refl _) (.cons (.tmp rfl) (.cons (.tmp rfl) .nil)) (List.nil_sublist _) ?_
    exact ⟨⟨2, [], _, rfl, RepE.nil, .inl ⟨h13, rfl, rfl⟩⟩, rfl⟩
  · refine op_v (v_cmpf rfl rfl rfl (by omega)) rfl ?_
    refine ops_nil ?_
    refine post_next ?_
    refine code_cond_f rfl ?_
    refine code_skip ?_
    refine post_next ?_
    refine code_seq ?_
    refine code_region ?_
    refine op_v (v_assign rfl) rfl ?_
    refine ops_nil ?_
    refine post_next ?_
    refine code_seq ?_
    refine code_seq ?_
    refine code_region ?_
    refine op_v (v_move rfl) rfl ?_
    refine op_v (v_len Try.underlying26 rfl) rfl ?_
    refine op_v (v_move rfl) rfl ?_
    refine ops_nil ?_
    refine post_next ?_
    refine code_block ?_
    refine CodeJ.view (View.nilRow 49 5) ?_
    refine code_loop (fun m σ' I' δ' => ∃ (k : Nat) (A : Option Addr) (c' : Nat) (zs : List Value) (ys : List Li), m = c.length - k ∧ k ≤ c.length ∧ σ' = [(0, .slice sa bs.length sc), (6, .slice A ys.length c'), (14, .slice ad c.length c0), (15, .int .i64 c.length), (16, .int .i64 k)] ∧ I.le I' ∧ δ' = [cRow A c' ys.length zs] ∧ RowE LitE I' zs ys ∧ ys.length = k ∧ ∀ i (h : i < k) (h2 : i < ys.length) (h3 : i < c.length), OutL bs c[i] 0 ys[i]) c.length [(0, .slice sa bs.length sc), (6, .slice none 0 0), (14, .slice ad c.length c0), (15, .int .i64 c.length), (16, .int .i64 (0 : Nat))] ⟨0, none, 0, [], [], rfl, Nat.zero_le _, rfl, Imm.le_refl _, rfl, rfl, rfl, fun i h => by omega⟩ ⟨rfl, rfl, rfl, rfl, rfl, trivial⟩ ?_
    rintro m _ I0 _ ⟨k, A, c', zs, ys, rfl, hk, rfl, hI0, rfl, hzs, hyl, hall⟩
    refine code_seq ?_
    refine code_region ?_
    refine op_v (v_cmp rfl rfl rfl) rfl ?_
    refine ops_nil ?_
    refine post_next ?_
    refine code_seq ?_
    refine code_cond rfl (fun hc1 => ?_) (fun hc1 => ?_)
    · have hlt : k < c.length := by simpa using hc1
      obtain ⟨vs, ⟨la, lc, ra, rc, rfl, hl, hr⟩, hat⟩ := hrow.cellsAt hcells hlt
      have hs1 := hat.isSome
      have hsk := hsz _ (List.getElem_mem hlt)
      refine code_skip ?_
      refine post_next ?_
      refine code_seq ?_
      refine code_block ?_
      refine code_seq ?_
      refine code_region ?_
      refine op_v (v_indexA Try.underlying26 sz49 rfl rfl) rfl ?_
      refine op_v (v_loadI0 ty49 (hat.mono hI0) rfl rfl rfl) rfl ?_
      refine o_alloc z49 rfl rfl (fun b8 => ?_)
      refine o_store ty49 rfl rfl rfl rfl rfl (by repeat (first | exact Swap.here | apply Swap.there)) rfl ?_
      refine ops_nil ?_
      refine post_next ?_
      refine code_seq ?_
      refine code_region ?_
      refine op_v (v_move rfl) rfl ?_
      refine op_v (v_loadA ty49 rfl rfl) rfl ?_
      refine op_call pl83 rfl rfl ((LApply_does (x := c[k]) (hs.mono Imm.leA) ⟨la, lc, ra, rc, rfl, hl.mono Imm.leA, hr.mono Imm.leA⟩ hbs hsk.1 hsk.2)) Parts.none ?_
      rintro v23 I23 _ hI23 ⟨⟨e, y, r23, rfl, hr23, ho⟩, rfl⟩
      obtain ⟨ma, mc, na, nc, rfl, hml, hmr⟩ := hr23
      refine op_v (v_move rfl) rfl ?_
      refine op_v (v_extract rfl rfl) rfl ?_
      refine op_v (v_extract rfl rfl) rfl ?_
      refine o_alloc z49 rfl rfl (fun b9 => ?_)
      refine o_store ty49 rfl rfl rfl rfl rfl (by repeat (first | exact Swap.here | apply Swap.there)) rfl ?_
      refine op_v (v_assign rfl) rfl ?_
      refine ops_nil ?_
      refine post_next ?_
      refine code_seq ?_
      refine code_seq ?_
      refine code_region ?_
      refine op_v (v_move rfl) rfl ?_
      by_cases h27 : e ≠ 0
      · refine op_v (v_cmptA rfl rfl rfl) rfl ?_
        refine ops_nil ?_
        refine post_next ?_
        refine code_cond_t rfl ?_
        refine code_seq ?_
        refine code_region ?_
        refine op_v (v_move rfl) rfl ?_
        refine op_v (v_assign rfl) rfl ?_
        refine op_v (v_assign rfl) rfl ?_
        refine ops_nil ?_
        refine post_next ?_
        refine code_ret ?_
        refine post_ret_then ?_
        refine post_ret_block ?_
        refine post_ret_then ?_
        refine post_ret_then ?_
        refine post_ret_block ?_
        refine post_ret_then ?_
        refine post_ret (rs := [.tmp 4, .tmp 5]) rfl (List.Perm.refl _) (.cons (.tmp rfl) (.cons (.tmp rfl) .nil)) (List.nil_sublist _) ?_
        exact ⟨⟨e, [], _, rfl, RepE.nil, .inr ⟨by omega, .inl ⟨k, hlt, ys, y, ⟨hyl, fun i h h2 => hall i h h2 (by omega)⟩, ho, h27, rfl⟩⟩⟩, rfl⟩
      · have he : e = 0 := Classical.not_not.1 h27
        subst he
        refine op_v (v_cmpfA rfl rfl rfl) rfl ?_
        refine ops_nil ?_
        refine post_next ?_
        refine code_cond_f rfl ?_
        refine code_skip ?_
        refine post_next ?_
        refine code_region ?_
        refine op_v (v_move rfl) rfl ?_
        refine op_v (v_loadA ty49 rfl rfl) rfl ?_
        refine o_buildSlice (xs := [(Go.Operand.tmp 30)]) Try.underlying26 bs49 rfl rfl rfl rfl rfl (fun b31 => ?_)
        refine o_append Try.underlying26 bs49 rfl rfl rfl (fun v' => by repeat (first | exact Swap.here | apply Swap.there)) (Src.ofRow (by repeat (first | exact Has.here | apply Has.there)) rfl) (by first | rfl | omega | simp) (by simp [cat, cellsL, Value.oneCell']) (by omega) (by omega) (fun a32 c32 => ?_)
        have hl2 : ys.length + 1 = (ys ++ [y]).length := by simp
        refine op_v (v_assign rfl) rfl ?_
        refine ops_nil ?_
        refine post_out ?_
        refine post_next ?_
        refine code_region ?_
        refine op_v (v_addb rfl rfl rfl (by omega)) rfl ?_
        refine op_v (v_move rfl) rfl ?_
        refine ops_nil ?_
        refine PostJ.view ((View.drop Del.here).trans ((View.drop Del.here).trans (View.drop Del.here))) ?_
        refine post_again (c.length - (k + 1)) [(0, .slice sa bs.length sc), (6, .slice a32 (ys.length + 1) c32), (14, .slice ad c.length c0), (15, .int .i64 c.length), (16, .int .i64 (k + 1 : Nat))] (by omega) ⟨k + 1, a32, c32, zs ++ liC y ma mc na nc, ys ++ [y], rfl, hlt, by rw [hl2], Imm.leA, by simp only [cRow, ← hl2]; rfl, (hzs.mono Imm.leA).app (RowE.single ⟨ma, mc, na, nc, rfl, hml.mono Imm.leA, hmr.mono Imm.leA⟩), by simp; exact hyl, fun i h h2 h3 => ?_⟩ ⟨rfl, rfl, rfl, rfl, rfl, trivial⟩
        rcases Nat.lt_or_ge i k with q | q
        · rw [List.getElem_append_left (by omega)]; exact hall i q (by omega) h3
        · have e : i = k := by omega
          subst e
          rw [List.getElem_append_right (by omega)]; simp only [hyl, Nat.sub_self, List.getElem_cons_zero]; exact ho
    · have hge : k = c.length := by simp at hc1; omega
      refine code_exit ?_
      refine post_exit_then ?_
      refine post_exit_then ?_
      refine post_exit ?_
      refine post_next ?_
      refine code_seq ?_
      refine code_region ?_
      refine OpsJ.freezeRow Del.here ?_
      rintro I34 a34 c34 hI34 hq hc34 hl34 hcells34
      cases hq
      refine op_v (v_move rfl) rfl ?_
      refine op_v (v_assign rfl) rfl ?_
      refine op_v (v_assign rfl) rfl ?_
      refine ops_nil ?_
      refine post_next ?_
      refine code_ret ?_
      refine post_ret (rs := [.tmp 4, .tmp 5]) rfl (List.Perm.refl _) (.cons (.tmp rfl) (.cons (.tmp rfl) .nil)) (List.nil_sublist _) ?_
      exact ⟨⟨0, ys, _, rfl, ⟨_, _, _, rfl, hc34, by omega, hcells34, hzs.mono hI34⟩, .inr ⟨by omega, .inr ⟨rfl, by omega, fun i h h2 => hall i (by omega) h2 h⟩⟩⟩, rfl⟩
/-! ### which ones are maximal -/
def undB (gs : List Sy) (x y : Li) (s : Bool) : Bool := !decide (mulG gs (rowL x) (rowL y) = 1) && !(s && decide (mulG gs (rowL x) (rowL y) = 0))
def topG (gs : List Sy) (c : List Li) (i : Nat) (s : Bool) : Bool := (List.range c.length).all fun k => decide (k = i) || undB gs (c.getD k zeroLi) (c.getD i zeroLi) s
end Go.Proofs.Ytdbadicpbmndbaa
/- A clause with terms put, in another order, and more literals; its Norm. Plain facts; no condition. -/
set_option linter.unusedVariables false
set_option linter.unusedSimpArgs false
set_option linter.unnecessarySimpa false
namespace Go.Proofs.Ytdbadicpbmndbaa
open Go Lg

def sbθ (bs : List Bi) (v : Int) : T := (ofB bs v).getD (idθ v)
theorem chk_bad1 {t : T} (h : chkT t = 0) : badN1 t = false := by
  unfold chkT at h
  split at h
  · cases h
  · split at h
    · cases h
    · split at h
      · cases h
      · rename_i q; unfold badN1; simpa using q
theorem bad1_args {h : Int} {ts : List T} (hb : badN1 (.mk h ts) = false) : (h < 0 → ts = []) ∧ -256 ≤ h ∧ h ≤ 1023 ∧ ts.length ≤ 8 ∧ ∀ t ∈ ts, badN1 t = false := by
  rw [badN1_eq, Bool.or_eq_false_iff] at hb
  have hn : ¬ ((h < 0 ∧ 0 < ts.length) ∨ h < -256 ∨ 1023 < h ∨ 8 < ts.length) := fun q => by
    rw [badN_iff.2 q] at hb; cases hb.1
  refine ⟨fun q => ?_, by omega, by omega, by omega, fun t ht => ?_⟩
  · cases ts with
    | nil => rfl
    | cons x r => exact absurd (.inl ⟨q, by simp⟩) hn
  · have := List.any_eq_false.1 hb.2 t ht; simpa using this
mutual
theorem pT_sb (bs : List Bi) : ∀ t : T, badN1 t = false → pT (sbθ bs) t = sbT bs t
  | .mk h us, hb => by
    obtain ⟨h1, _, _, _, h2⟩ := bad1_args hb
    rw [pT_mk]
    unfold sbT
    simp only [rbT]
    by_cases q : h < 0
    · rw [if_pos q, if_pos q, h1 q]
      unfold ofT sbθ idθ
      simp only [T.head]
      congr 2; omega
    · rw [if_neg q, if_neg q, pL_sb bs us h2]
theorem pL_sb (bs : List Bi) : ∀ ts : List T, (∀ t ∈ ts, badN1 t = false) → pL (sbθ bs) ts = rbL (ofT bs) ts
  | [], _ => rfl
  | t :: r, hb => by
    have h1 := pT_sb bs t (hb t (List.mem_cons_self ..))
    have h2 := pL_sb bs r fun u hu => hb u (List.mem_cons_of_mem _ hu)
    unfold sbT at h1
    rw [pL_map] at h2 ⊢
    rw [List.map_cons, h1, h2]; rfl
end
theorem sb_head {bs : List Bi} (h0 : ∀ b ∈ bs, b.2.head ≠ 0) (t : T) : (sbT bs t).head = 0 ↔ t.head = 0 := by
  obtain ⟨h, us⟩ := t
  unfold sbT
  simp only [rbT]
  by_cases q : h < 0
  · rw [if_pos q]
    unfold ofT
    simp only [T.head]
    constructor
    · intro e
      exfalso
      cases hq : ofB bs (-1 - h) with
      | none => rw [hq] at e; simp [T.head] at e; omega
      | some u =>
        rw [hq] at e
        obtain ⟨b, hb, _, rfl⟩ := ofB_mem hq
        exact h0 b hb e
    · intro e; omega
  · rw [if_neg q]; rfl
theorem sb_kind {bs : List Bi} (h0 : ∀ b ∈ bs, b.2.head ≠ 0) (x : Li) {n : Bool} : kindB x = kindB ⟨n, sbT bs x.l, sbT bs x.r⟩ := by
  unfold kindB
  congr 1 <;> rw [decide_eq_decide] <;> exact (sb_head h0 _).symm
theorem kind_turn {n m : Bool} (l r : T) : kindB ⟨n, l, r⟩ = kindB ⟨m, r, l⟩ := by unfold kindB; exact Bool.or_comm _ _
/-! ### literals by numbers -/
theorem Asg_fn {θ : Int → T} {d : List Li} : ∀ {c : List Li} (f : Nat → Nat), (∀ i (hi : i < c.length), ∃ h : f i < d.length, d[f i].neg = c[i].neg ∧ litM θ c[i] d[f i]) → Asg θ d c ((List.range c.length).map f)
  | [], f, _ => trivial
  | a :: r, f, h => by
    rw [List.length_cons, List.range_succ_eq_map, List.map_cons, List.map_map]
    refine ⟨h 0 (by simp), Asg_fn (c := r) (f ∘ Nat.succ) fun i hi => ?_⟩
    have := h (i + 1) (by simpa using hi)
    simpa using this
theorem Sub_fn {θ : Int → T} {c d : List Li} (f : Nat → Nat) (h : ∀ i (hi : i < c.length), ∃ h : f i < d.length, d[f i].neg = c[i].neg ∧ litM θ c[i] d[f i]) (hf : ∀ i j, i < j → j < c.length → f i ≠ f j) : Sub c d := by
  refine Sub_iff.2 ⟨θ, _, Asg_fn f h, ?_⟩
  unfold List.Nodup
  rw [List.pairwise_map]
  refine List.Pairwise.imp_of_mem (fun {i j} hi hj hlt => hf i j hlt (by simpa using hj)) List.pairwise_lt_range
/-- sides the other way round, from behind -/
def turnR (d : List Li) : List Li := d.reverse.map fun x => ⟨x.neg, x.r, x.l⟩
theorem Sub_puts {bs : List Bi} (h0 : ∀ b ∈ bs, b.2.head ≠ 0) {c d more : List Li} (hc : ∀ x ∈ c, RiL x) (hl : d.length = c.length) (hd : ∀ i (h1 : i < c.length) (h2 : i < d.length), d[i] = ⟨c[i].neg, sbT bs c[i].l, sbT bs c[i].r⟩) : Sub c (more ++ turnR d) := by
  have htl : (turnR d).length = c.length := by simp [turnR, hl]
  refine Sub_fn (θ := sbθ bs) (fun i => more.length + (c.length - 1 - i)) (fun i hi => ?_) (fun i j hij hj => by omega)
  have hlt : more.length + (c.length - 1 - i) < (more ++ turnR d).length := by rw [List.length_append, htl]; omega
  have hget : (more ++ turnR d)[more.length + (c.length - 1 - i)] = ⟨c[i].neg, sbT bs c[i].r, sbT bs c[i].l⟩ := by
    rw [List.getElem_append_right (by omega)]
    simp only [turnR, List.getElem_map, List.getElem_reverse]
    have e : d.length - 1 - (more.length + (c.length - 1 - i) - more.length) = i := by omega
    simp only [e]
    rw [hd i hi (by omega)]
  refine ⟨hlt, ?_⟩
  rw [hget]
  have hr := hc _ (List.getElem_mem hi)
  exact ⟨rfl, (sb_kind h0 c[i] (n := c[i].neg)).trans (kind_turn _ _), .inr ⟨pT_sb bs _ (chk_bad1 hr.1), pT_sb bs _ (chk_bad1 hr.2)⟩⟩
/-! ### variables as they come -/
theorem int_pigeon : ∀ (n : Nat) (l : List Int), l.Nodup → (∀ v ∈ l, 0 ≤ v ∧ v < n) → l.length ≤ n
  | 0, l, _, h => by
    cases l with
    | nil => simp
    | cons x r => have := h x (List.mem_cons_self ..); omega
  | n + 1, l, hn, h => by
    have h1 := int_pigeon n (l.erase n) (hn.erase _) fun v hv => by
      obtain ⟨e1, e2⟩ := hn.mem_erase_iff.1 hv
      have := h v e2
      omega
    have h2 : l.length ≤ (l.erase (n : Int)).length + 1 := by rw [List.length_erase]; split <;> omega
    omega
theorem addN_nodup {ns : List Int} (v : Int) (h : ns.Nodup) : (addN ns v).Nodup := by
  unfold addN
  split
  · exact h
  · rename_i q; exact List.nodup_append.2 ⟨h, by simp, fun a ha b hb => by simp at hb; subst hb; exact fun e => q (e ▸ ha)⟩
theorem uniL_nodup : ∀ (l acc : List Int), acc.Nodup → (uniL acc l).Nodup
  | [], acc, h => h
  | x :: r, acc, h => uniL_nodup r (addN acc x) (addN_nodup x h)
theorem uvL_nodup : ∀ (ts : List T) (acc : List Int), acc.Nodup → (uvL acc ts).Nodup
  | [], acc, h => by simpa [uvL] using h
  | t :: r, acc, h => by simp only [uvL]; exact uvL_nodup r _ (uniL_nodup _ _ h)
theorem numOf_get : ∀ {ns : List Int} {v : Int}, v ∈ ns → ns.getD (numOf ns v) 0 = v
  | x :: r, v, h => by
    simp only [numOf]
    by_cases e : x = v
    · rw [if_pos e]; exact e
    · rw [if_neg e]
      exact numOf_get (List.mem_of_ne_of_mem (fun q => e q.symm) h)
def inθ (ns : List Int) (v : Int) : T := .mk (-1 - ns.getD v.toNat 0) []
mutual
theorem ren_back {ns : List Int} (hl : ns.length ≤ 256) : ∀ t : T, badN1 t = false → (∀ k ∈ hds t, k < 0 → -1 - k ∈ ns) → (sbT (numB ns) t).size = t.size ∧ depT (sbT (numB ns) t) = depT t ∧ badN1 (sbT (numB ns) t) = false ∧ pT (inθ ns) (sbT (numB ns) t) = t
  | .mk h us, hb, hk => by
    obtain ⟨h1, _, hh, h8, h2⟩ := bad1_args hb
    rw [hds_eq2] at hk
    unfold sbT
    simp only [rbT]
    by_cases q : h < 0
    · rw [if_pos q, h1 q]
      have hm : -1 - h ∈ ns := hk h (List.mem_cons_self ..) q
      have e : ofT (numB ns) (.mk h []) = .mk (-1 - (numOf ns (-1 - h) : Int)) [] := by
        unfold ofT; simp only [T.head]; rw [ofB_num, if_pos hm]; rfl
      have hlt := numOf_lt hm
      rw [e]
      refine ⟨rfl, rfl, ?_, ?_⟩
      · rw [badN1_eq, Bool.or_eq_false_iff]
        refine ⟨?_, rfl⟩
        cases hq : badN (1, T.mk (-1 - (numOf ns (-1 - h) : Int)) [])
        · rfl
        · rw [badN_iff] at hq
          simp only [List.length_nil] at hq
          omega
      · rw [pT_mk, if_pos (by omega)]
        unfold inθ
        have e2 : (-1 - (-1 - (numOf ns (-1 - h) : Int))).toNat = numOf ns (-1 - h) := by omega
        rw [e2, numOf_get hm]
        congr 1; omega
    · rw [if_neg q]
      obtain ⟨e1, e2, e3, e4, e5⟩ := ren_backL hl us h2 fun k hm => hk k (List.mem_cons_of_mem _ hm)
      refine ⟨by simp only [T.size, e1], by simp only [depT, e2], ?_, ?_⟩
      · rw [badN1_eq, Bool.or_eq_false_iff]
        refine ⟨?_, List.any_eq_false.2 fun t ht => by rw [e3 t ht]; simp⟩
        cases hq : badN (1, T.mk h (rbL (ofT (numB ns)) us))
        · rfl
        · rw [badN_iff, e5] at hq; omega
      · rw [pT_mk, if_neg q, e4]
theorem ren_backL {ns : List Int} (hl : ns.length ≤ 256) : ∀ ts : List T, (∀ t ∈ ts, badN1 t = false) → (∀ k ∈ ts.flatMap hds, k < 0 → -1 - k ∈ ns) → sizeL (rbL (ofT (numB ns)) ts) = sizeL ts ∧ depL (rbL (ofT (numB ns)) ts) = depL ts ∧ (∀ t ∈ rbL (ofT (numB ns)) ts, badN1 t = false) ∧ pL (inθ ns) (rbL (ofT (numB ns)) ts) = ts ∧ (rbL (ofT (numB ns)) ts).length = ts.length
  | [], _, _ => ⟨rfl, rfl, fun t h => (by cases h), rfl, rfl⟩
  | t :: r, hb, hk => by
    rw [List.flatMap_cons] at hk
    obtain ⟨f1, f2, f3, f4⟩ := ren_back hl t (hb t (List.mem_cons_self ..)) fun k hm => hk k (List.mem_append_left _ hm)
    obtain ⟨e1, e2, e3, e4, e5⟩ := ren_backL hl r (fun u hu => hb u (List.mem_cons_of_mem _ hu)) fun k hm => hk k (List.mem_append_right _ hm)
    unfold sbT at f1 f2 f3 f4
    simp only [rbL]
    refine ⟨by simp only [sizeL, f1, e1], by simp only [depL, f2, e2], fun u hu => ?_, ?_, by simp only [List.length_cons, e5]⟩
    · rcases List.mem_cons.1 hu with rfl | hu
      · exact f3
      · exact e3 u hu
    · rw [pL_map] at e4 ⊢
      rw [List.map_cons, f4, e4]
end
theorem chk_zero {t u : T} (h : chkT t = 0) (h1 : u.size = t.size) (h2 : depT u = depT t) (h3 : badN1 u = false) : chkT u = 0 := by
  unfold chkT at h ⊢
  rw [h1, h2]
  split at h
  · cases h
  · rename_i q1
    split at h
    · cases h
    · rename_i q2
      rw [if_neg q1, if_neg q2, if_neg]
      unfold badN1 at h3; rw [h3]; simp
theorem fin_has {c : List Li} {t : T} (ht : t ∈ sidesL c) : ∀ k ∈ hds t, k < 0 → -1 - k ∈ uvL [] (sidesL c) := fun k hk h0 =>
  (uvL_mem _ _ _).2 (.inr ⟨k, List.mem_flatMap.2 ⟨t, ht, hk⟩, h0, rfl⟩)
theorem numB_head (ns : List Int) : ∀ b ∈ numB ns, b.2.head ≠ 0 := fun b hb => by
  unfold numB at hb
  obtain ⟨x, _, rfl⟩ := List.mem_map.1 hb
  simp only [T.head]; omega
section
variable {c : List Li} (hc : (sidesL c).any badT = false)
include hc
theorem fin_small : (uvL [] (sidesL c)).length ≤ 256 := by
  refine int_pigeon 256 _ (uvL_nodup _ _ List.nodup_nil) fun v hv => ?_
  have := varsC_in hc v ((uv_vars c v).1 hv)
  exact ⟨this.1, by omega⟩
theorem norm_lits : normC c = c.map fun x => ⟨x.neg, sbT (numB (uvL [] (sidesL c))) x.l, sbT (numB (uvL [] (sidesL c))) x.r⟩ := (norm_putC hc).symm
theorem side_back {x : Li} (hx : x ∈ c) : (∀ t, t = x.l ∨ t = x.r → chkT (sbT (numB (uvL [] (sidesL c))) t) = 0 ∧ pT (inθ (uvL [] (sidesL c))) (sbT (numB (uvL [] (sidesL c))) t) = t) := fun t ht => by
  have hm : t ∈ sidesL c := List.mem_flatMap.2 ⟨x, hx, by rcases ht with rfl | rfl <;> simp⟩
  have hck := any_bad hc t hm
  obtain ⟨e1, e2, e3, e4⟩ := ren_back (fin_small hc) t (chk_bad1 hck) (fin_has hm)
  exact ⟨chk_zero hck e1 e2 e3, e4⟩
theorem norm_right : (sidesL (normC c)).any badT = false := by
  rw [List.any_eq_false]
  intro t ht
  rw [norm_lits hc] at ht
  obtain ⟨y, hy, hty⟩ := List.mem_flatMap.1 ht
  obtain ⟨x, hx, rfl⟩ := List.mem_map.1 hy
  have := side_back hc hx
  unfold badT
  simp at hty
  rcases hty with rfl | rfl
  · rw [(this _ (.inl rfl)).1]; simp
  · rw [(this _ (.inr rfl)).1]; simp
theorem norm_sub : Sub c (normC c) ∧ Sub (normC c) c := by
  have hlen : (normC c).length = c.length := by rw [norm_lits hc, List.length_map]
  have hget : ∀ i (h1 : i < (normC c).length) (h2 : i < c.length), (normC c)[i] = ⟨c[i].neg, sbT (numB (uvL [] (sidesL c))) c[i].l, sbT (numB (uvL [] (sidesL c))) c[i].r⟩ := fun i h1 h2 => by
    simp only [norm_lits hc, List.getElem_map]
  have hr := RiL_of hc
  refine ⟨Sub_fn (θ := sbθ (numB (uvL [] (sidesL c)))) id (fun i hi => ?_) (fun i j h _ => by simp only [id]; omega), Sub_fn (θ := inθ (uvL [] (sidesL c))) id (fun i hi => ?_) (fun i j h _ => by simp only [id]; omega)⟩
  · refine ⟨by simp only [id]; omega, ?_⟩
    simp only [id]
    rw [hget i (by omega) hi]
    have hx := hr _ (List.getElem_mem hi)
    exact ⟨rfl, sb_kind (numB_head _) _, .inl ⟨pT_sb _ _ (chk_bad1 hx.1), pT_sb _ _ (chk_bad1 hx.2)⟩⟩
  · have hi2 : i < c.length := by omega
    refine ⟨hi2, ?_⟩
    simp only [id]
    rw [hget i hi hi2]
    have := side_back hc (List.getElem_mem hi2)
    exact ⟨rfl, (sb_kind (numB_head _) _).symm, .inl ⟨(this _ (.inl rfl)).2, (this _ (.inr rfl)).2⟩⟩
end
/-! ### what is put is right -/
theorem OutL_ok {bs : List Bi} {x y : Li} (h : OutL bs x 0 y) : RiL x ∧ RiL y ∧ y = ⟨x.neg, sbT bs x.l, sbT bs x.r⟩ := by
  obtain ⟨e1, u1, h1, h2⟩ := h
  rcases h2 with ⟨a, b, _⟩ | ⟨a, e2, u2, h3, h4⟩
  · exact absurd b.symm a
  · rcases h4 with ⟨b, d, _⟩ | ⟨b, _, rfl⟩
    · exact absurd d.symm b
    · subst a
      subst b
      rcases h1 with ⟨⟨_, k1⟩, k2, k3⟩ | ⟨_, k, _⟩
      · rcases h3 with ⟨⟨_, m1⟩, m2, m3⟩ | ⟨_, m, _⟩
        · rw [if_pos k2.symm] at k3
          rw [if_pos m2.symm] at m3
          subst k3
          subst m3
          exact ⟨⟨k1, m1⟩, ⟨k2.symm, m2.symm⟩, rfl⟩
        · cases m
      · cases k
theorem OutC_ok {bs : List Bi} {c ys : List Li} (h : OutC bs c 0 ys) : c.length ≤ 32 ∧ ys.length = c.length ∧ (∀ x ∈ c, RiL x) ∧ (∀ y ∈ ys, RiL y) ∧ ∀ i (h1 : i < c.length) (h2 : i < ys.length), ys[i] = ⟨c[i].neg, sbT bs c[i].l, sbT bs c[i].r⟩ := by
  rcases h with ⟨_, h, _⟩ | ⟨hl, ⟨_, _, _, _, _, _, h, _⟩ | ⟨_, h1, h2⟩⟩
  · cases h
  · exact absurd rfl h
  · refine ⟨hl, h1, fun x hx => ?_, fun y hy => ?_, fun i k1 k2 => (OutL_ok (h2 i k1 k2)).2.2⟩
    · obtain ⟨i, hi, rfl⟩ := List.getElem_of_mem hx
      exact (OutL_ok (h2 i hi (by omega))).1
    · obtain ⟨i, hi, rfl⟩ := List.getElem_of_mem hy
      exact (OutL_ok (h2 i (by omega) hi)).2.1
theorem RiL_any {c : List Li} (h : ∀ x ∈ c, RiL x) : (sidesL c).any badT = false := by
  rw [List.any_eq_false]
  intro t ht
  obtain ⟨x, hx, hty⟩ := List.mem_flatMap.1 ht
  unfold badT
  simp at hty
  rcases hty with rfl | rfl
  · rw [(h x hx).1]; simp
  · rw [(h x hx).2]; simp
end Go.Proofs.Ytdbadicpbmndbaa
/- Walks: literals in worlds; the statement. -/
set_option linter.unusedVariables false
set_option linter.unusedSimpArgs false
set_option linter.unnecessarySimpa false
/- short -/
namespace Go.Proofs.Ytdbadicpbmndbaa
open Go Lg

theorem RInts.cells {I : Imm} {ad : Option Addr} {n c : Nat} {xs : List Int} (h : RInts I (.slice ad n c) xs) : Cells I ad (xs.map (Value.int .i64)) := by
  generalize hv : Value.slice ad n c = v at h
  obtain ⟨ad', c', xs, _, _, hat, _⟩ := h
  cases hv
  exact hat
structure Wd where
  size : Int
  rows : List (List Int)
def RepW (I : Imm) (v : Value) (w : Wd) : Prop := InR w.size ∧ ∃ (A : Option Addr) (c : Nat) (xs : List Value), v = .agg #[.int .i64 w.size, .slice A w.rows.length c] ∧ w.rows.length ≤ 6000000000000 ∧ Cells I A xs ∧ RowP I xs w.rows
theorem RepW.mono {I J : Imm} {v : Value} {w : Wd} (h : RepW I v w) (hl : I.le J) : RepW J v w := by
  obtain ⟨h0, A, c, xs, h1, h2, h3, h4⟩ := h; exact ⟨h0, A, c, xs, h1, h2, h3.mono hl, h4.mono hl⟩
theorem RepW.open {I : Imm} {v : Value} {w : Wd} (h : RepW I v w) : ∃ (A : Option Addr) (c : Nat), v = .agg #[.int .i64 w.size, .slice A w.rows.length c] ∧ w.rows.length ≤ 6000000000000 ∧ ∀ i (h : i < w.rows.length), ∃ (ed : Option Addr) (ec : Nat), At I A (i * 1) [.slice ed w.rows[i].length ec] ∧ RInts I (.slice ed w.rows[i].length ec) w.rows[i] := by
  obtain ⟨_, A, c, xs, h1, h2, h3, h4⟩ := h
  exact ⟨A, c, h1, h2, fun i hi => RPs.get h3 h4 i hi⟩
/-- a world of a signature -/
structure WR (gs : List Sy) (w : Wd) : Prop where
  lo : 1 ≤ w.size
  hi : w.size ≤ 4
  len : w.rows.length = gs.length
  each : ∀ i (h : i < gs.length), gs[i].ar ≤ 4 ∧ ((w.rows[i]'(by omega)).length : Int) = w.size ^ gs[i].ar.toNat ∧ ∀ x ∈ w.rows[i]'(by omega), 0 ≤ x ∧ (gs[i].tr = false → x < w.size)
mutual
def wvT (w : Wd) (os : List Int) : T → Int
  | .mk h ts => if h < 0 then (os[(-1 - h).toNat]?).getD 0 else ((w.rows[h.toNat]?).getD []).getD (wvL w os 0 ts).toNat 0
def wvL (w : Wd) (os : List Int) : Int → List T → Int
  | a, [] => a
  | a, t :: r => wvL w os (a * w.size + wvT w os t) r
end
theorem wvL_snoc (w : Wd) (os : List Int) (u : T) : ∀ (l : List T) (a : Int), wvL w os a (l ++ [u]) = wvL w os a l * w.size + wvT w os u
  | [], a => by simp [wvL]
  | t :: r, a => by simp only [List.cons_append, wvL]; exact wvL_snoc w os u r _
theorem wvL_take (w : Wd) (os : List Int) (l : List T) (k : Nat) (h : k < l.length) : wvL w os 0 (l.take (k + 1)) = wvL w os 0 (l.take k) * w.size + wvT w os l[k] := by
  rw [List.take_succ_eq_append_getElem h, wvL_snoc]
theorem arg_thing {gs : List Sy} {t : T} (h : OkG gs t) (i : Nat) (hi : i < t.args.length) : trL gs t.args[i] = false := by
  have hc := (h.child i hi).1
  have h1 := h.mix
  rw [mixG_eq, List.any_eq_false] at h1
  have h2 := h1 t.args[i] (List.getElem_mem hi)
  simp only [Bool.or_eq_true, not_or, Bool.not_eq_true] at h2
  rw [← tru_eq hc, ← mixB_tru hc.unk]; exact h2.1
theorem right_ar {gs : List Sy} (h : rightG gs = true) (i : Nat) (hi : i < gs.length) : 0 ≤ gs[i].ar := by
  have := rightG_at h i hi
  unfold badS at this
  simp only [Bool.or_eq_false_iff, decide_eq_false_iff_not] at this
  omega
/-! ### walks -/
theorem WFew_does {I : Imm} {v : Value} {w : Wd} (hw : RepW I v w) :
    Does Try.prog 15 [v] I [] (fun v _ δ' => (∃ b, v = .bool b) ∧ δ' = []) := by
  obtain ⟨A, c, rfl, hlen, hat⟩ := hw.open
  refine Does.intro Try.func15 rfl Try.ntmps15 rfl fun w0 => ?_
  refine code_seq ?_
  refine code_region ?_
  refine o_box rfl rfl rfl (fun b1 => ?_)
  refine op_v (v_assign rfl) rfl ?_
  refine ops_nil ?_
  refine post_next ?_
  refine code_seq ?_
  refine code_region ?_
  refine op_v (v_assign rfl) rfl ?_
  refine ops_nil ?_
  refine post_next ?_
  refine code_seq ?_
  refine code_seq ?_
  refine code_region ?_
  refine op_v (v_assign rfl) rfl ?_
  refine ops_nil ?_
  refine post_next ?_
  refine code_block ?_
  refine code_loop (fun m σ' I' δ' => ∃ (k n : Nat), m = w.rows.length - k ∧ k ≤ w.rows.length ∧ σ' = [(1, .pointer (some ⟨b1, 0, none⟩)), (3, .int .i64 n), (4, .int .i64 k)] ∧ I.le I' ∧ δ' = [.box b1 25 [.int .i64 w.size, .slice A w.rows.length c]] ∧ n ≤ 17592186050000) w.rows.length [(1, .pointer (some ⟨b1, 0, none⟩)), (3, .int .i64 (0 : Nat)), (4, .int .i64 (0 : Nat))] ⟨0, 0, rfl, Nat.zero_le _, rfl, Imm.le_refl _, rfl, by omega⟩ ⟨rfl, rfl, rfl, trivial⟩ ?_
  rintro m _ I0 _ ⟨k, n, rfl, hk, rfl, hI0, rfl, hn⟩
  refine code_seq ?_
  refine code_seq ?_
  refine code_region ?_
  refine op_v (v_move rfl) rfl ?_
  refine op_v (v_fieldB 1 Try.underlying25 rfl rfl fz23 rfl) rfl ?_
  refine op_v (v_loadA ty23 rfl rfl) rfl ?_
  refine op_v (v_len Try.underlying23 rfl) rfl ?_
  by_cases h9 : k < w.rows.length
  · obtain ⟨ed, ec, hate, hre⟩ := hat k h9
    have hs1 := hate.isSome
    have hel := hre.len.1
    refine op_v (v_cmptA rfl rfl rfl) rfl ?_
    refine op_v (v_move rfl) rfl ?_
    first
      | (refine op_want rfl rfl ?_
         refine op_v (v_fieldB 1 Try.underlying25 rfl rfl fz23 rfl) rfl ?_)
      | (refine op_skip rfl rfl (by simp [undef]) rfl ?_)
    refine op_want rfl rfl ?_
    refine op_v (v_loadA ty23 rfl rfl) rfl ?_
    refine op_want rfl rfl ?_
    refine op_v (v_len Try.underlying23 rfl) rfl ?_
    by_cases h14 : w.rows.length ≤ 300
    · first
        | (refine op_want rfl rfl ?_
           refine op_v (v_cmptA rfl rfl rfl) rfl ?_)
        | (refine op_skip rfl rfl (by simp [undef]) rfl ?_)
      refine op_v (v_pickt rfl rfl) rfl ?_
      refine op_v (v_move rfl) rfl ?_
      refine op_want rfl rfl ?_
      refine op_v (v_move rfl) rfl ?_
      by_cases h18 : n ≤ 3000
      · first
          | (refine op_want rfl rfl ?_
             refine op_v (v_cmptA rfl rfl rfl) rfl ?_)
          | (refine op_skip rfl rfl (by simp [undef]) rfl ?_)
        refine op_v (v_pickt rfl rfl) rfl ?_
        refine ops_nil ?_
        refine post_next ?_
        refine code_cond_t rfl ?_
        refine code_skip ?_
        refine post_next ?_
        refine code_seq ?_
        refine code_block ?_
        refine code_region ?_
        refine op_v (v_move rfl) rfl ?_
        refine op_v (v_fieldB 1 Try.underlying25 rfl rfl fz23 rfl) rfl ?_
        refine op_v (v_loadA ty23 rfl rfl) rfl ?_
        refine op_v (v_move rfl) rfl ?_
        refine op_v (v_indexA Try.underlying23 sz62 rfl rfl) rfl ?_
        refine op_v (v_loadI0 ty62 (hate.mono hI0) rfl rfl rfl) rfl ?_
        refine op_v (v_len Try.underlying62 rfl) rfl ?_
        refine op_v (v_addb rfl rfl rfl (by omega)) rfl ?_
        refine op_v (v_assign rfl) rfl ?_
        refine ops_nil ?_
        refine post_out ?_
        refine post_next ?_
        refine code_region ?_
        refine op_v (v_move rfl) rfl ?_
        refine op_v (v_addb rfl rfl rfl (by omega)) rfl ?_
        refine op_v (v_assign rfl) rfl ?_
        refine ops_nil ?_
        refine post_again (w.rows.length - (k + 1)) [(1, .pointer (some ⟨b1, 0, none⟩)), (3, .int .i64 ((n + w.rows[k].length : Nat) : Int)), (4, .int .i64 (k + 1 : Nat))] (by omega) ⟨k + 1, n + w.rows[k].length, rfl, h9, rfl, Imm.leA, rfl, by omega⟩ ⟨rfl, rfl, rfl, trivial⟩
      · first
          | (refine op_want rfl rfl ?_
             refine op_v (v_cmpfA rfl rfl rfl) rfl ?_)
          | (refine op_skip rfl rfl (by simp [undef]) rfl ?_)
        refine op_v (v_pickt rfl rfl) rfl ?_
        refine ops_nil ?_
        refine post_next ?_
        refine code_cond_f rfl ?_
        refine code_exit ?_
        refine post_exit_then ?_
        refine post_exit_then ?_
        refine post_exit ?_
        refine post_next ?_
        refine code_seq ?_
        refine code_region ?_
        refine op_v (v_fieldB 1 Try.underlying25 rfl rfl fz23 rfl) rfl ?_
        refine op_v (v_loadA ty23 rfl rfl) rfl ?_
        refine op_v (v_len Try.underlying23 rfl) rfl ?_
        refine op_v (v_cmptA rfl rfl rfl) rfl ?_
        refine op_v (v_move rfl) rfl ?_
        refine op_want rfl rfl ?_
        refine op_v (v_move rfl) rfl ?_
        first
          | (refine op_want rfl rfl ?_
             refine op_v (v_cmpfA rfl rfl rfl) rfl ?_)
          | (refine op_skip rfl rfl (by simp [undef]) rfl ?_)
        refine op_v (v_pickt rfl rfl) rfl ?_
        refine op_v (v_assign rfl) rfl ?_
        refine ops_nil ?_
        refine post_next ?_
        refine code_ret ?_
        refine post_ret (rs := [.tmp 2]) rfl (List.Perm.refl _) (.cons (.tmp rfl) .nil) (List.nil_sublist _) ?_
        exact ⟨⟨_, rfl⟩, rfl⟩
    · first
        | (refine op_want rfl rfl ?_
           refine op_v (v_cmpfA rfl rfl rfl) rfl ?_)
        | (refine op_skip rfl rfl (by simp [undef]) rfl ?_)
      refine op_v (v_pickt rfl rfl) rfl ?_
      refine op_v (v_move rfl) rfl ?_
      refine op_skip rfl rfl (by simp [undef]) rfl ?_
      refine op_skip rfl rfl (by simp [undef]) rfl ?_
      refine op_v (v_pickf rfl rfl) rfl ?_
      refine ops_nil ?_
      refine post_next ?_
      refine code_cond_f rfl ?_
      refine code_exit ?_
      refine post_exit_then ?_
      refine post_exit_then ?_
      refine post_exit ?_
      refine post_next ?_
      refine code_seq ?_
      refine code_region ?_
      refine op_v (v_fieldB 1 Try.underlying25 rfl rfl fz23 rfl) rfl ?_
      refine op_v (v_loadA ty23 rfl rfl) rfl ?_
      refine op_v (v_len Try.underlying23 rfl) rfl ?_
      refine op_v (v_cmpfA rfl rfl rfl) rfl ?_
      refine op_v (v_move rfl) rfl ?_
      refine op_skip rfl rfl (by simp [undef]) rfl ?_
      refine op_skip rfl rfl (by simp [undef]) rfl ?_
      refine op_v (v_pickf rfl rfl) rfl ?_
      refine op_v (v_assign rfl) rfl ?_
      refine ops_nil ?_
      refine post_next ?_
      refine code_ret ?_
      refine post_ret (rs := [.tmp 2]) rfl (List.Perm.refl _) (.cons (.tmp rfl) .nil) (List.nil_sublist _) ?_
      exact ⟨⟨_, rfl⟩, rfl⟩
  · refine op_v (v_cmpfA rfl rfl rfl) rfl ?_
    refine op_v (v_move rfl) rfl ?_
    refine op_skip rfl rfl (by simp [undef]) rfl ?_
    refine op_skip rfl rfl (by simp [undef]) rfl ?_
    refine op_skip rfl rfl (by simp [undef]) rfl ?_
    refine op_skip rfl rfl (by simp [undef]) rfl ?_
    refine op_v (v_pickf rfl rfl) rfl ?_
    refine op_v (v_move rfl) rfl ?_
    refine op_skip rfl rfl (by simp [undef]) rfl ?_
    refine op_skip rfl rfl (by simp [undef]) rfl ?_
    refine op_v (v_pickf rfl rfl) rfl ?_
    refine ops_nil ?_
    refine post_next ?_
    refine code_cond_f rfl ?_
    refine code_exit ?_
    refine post_exit_then ?_
    refine post_exit_then ?_
    refine post_exit ?_
    refine post_next ?_
    refine code_seq ?_
    refine code_region ?_
    refine op_v (v_fieldB 1 Try.underlying25 rfl rfl fz23 rfl) rfl ?_
    refine op_v (v_loadA ty23 rfl rfl) rfl ?_
    refine op_v (v_len Try.underlying23 rfl) rfl ?_
    by_cases h33 : w.rows.length ≤ 300
    · refine op_v (v_cmptA rfl rfl rfl) rfl ?_
      refine op_v (v_move rfl) rfl ?_
      refine op_want rfl rfl ?_
      refine op_v (v_move rfl) rfl ?_
      refine op_want rfl rfl ?_
      refine op_v (v_cmp rfl rfl rfl) rfl ?_
      refine op_v (v_pickt rfl rfl) rfl ?_
      refine op_v (v_assign rfl) rfl ?_
      refine ops_nil ?_
      refine post_next ?_
      refine code_ret ?_
      refine post_ret (rs := [.tmp 2]) rfl (List.Perm.refl _) (.cons (.tmp rfl) .nil) (List.nil_sublist _) ?_
      exact ⟨⟨_, rfl⟩, rfl⟩
    · refine op_v (v_cmpfA rfl rfl rfl) rfl ?_
      refine op_v (v_move rfl) rfl ?_
      refine op_skip rfl rfl (by simp [undef]) rfl ?_
      refine op_skip rfl rfl (by simp [undef]) rfl ?_
      refine op_v (v_pickf rfl rfl) rfl ?_
      refine op_v (v_assign rfl) rfl ?_
      refine ops_nil ?_
      refine post_next ?_
      refine code_ret ?_
      refine post_ret (rs := [.tmp 2]) rfl (List.Perm.refl _) (.cons (.tmp rfl) .nil) (List.nil_sublist _) ?_
      exact ⟨⟨_, rfl⟩, rfl⟩
theorem pow_bound {s : Int} (h0 : 1 ≤ s) (h1 : s ≤ 4) : ∀ k : Nat, k ≤ 4 → 1 ≤ s ^ k ∧ s ^ k ≤ 4 ^ k := by
  intro k
  induction k with
  | zero => intro _; simp
  | succ k ih =>
    intro hk
    obtain ⟨a, b⟩ := ih (by omega)
    rw [Int.pow_succ, Int.pow_succ]
    constructor
    · have := Int.mul_le_mul a h0 (by omega) (by omega); omega
    · exact Int.mul_le_mul b h1 (by omega) (Int.pow_nonneg (by omega))
theorem power_does {I : Imm} {s : Int} {n : Nat} (h0 : 1 ≤ s) (h1 : s ≤ 4) (hn : n ≤ 4) :
    Does Try.prog 65 [.int .i64 s, .int .i64 n] I [] (fun v _ δ' => v = .int .i64 (s ^ n) ∧ δ' = []) := by
  have h44 : ∀ k : Nat, k ≤ 4 → (4 : Int) ^ k ≤ 256 := fun k hk => by
    rcases k with _ | _ | _ | _ | _ | k <;> first | decide | omega
  refine Does.intro Try.func65 rfl Try.ntmps65 rfl fun w0 => ?_
  refine code_seq ?_
  refine code_region ?_
  refine op_v (v_assign rfl) rfl ?_
  refine ops_nil ?_
  refine post_next ?_
  refine code_seq ?_
  refine code_region ?_
  refine op_v (v_assign rfl) rfl ?_
  refine ops_nil ?_
  refine post_next ?_
  refine code_seq ?_
  refine code_seq ?_
  refine code_region ?_
  refine op_v (v_assign rfl) rfl ?_
  refine ops_nil ?_
  refine post_next ?_
  refine code_block ?_
  refine code_loop (fun m σ' I' δ' => ∃ k : Nat, m = n - k ∧ k ≤ n ∧ σ' = [(0, .int .i64 s), (1, .int .i64 n), (5, .int .i64 (s ^ k)), (6, .int .i64 k)] ∧ I = I' ∧ δ' = []) n [(0, .int .i64 s), (1, .int .i64 n), (5, .int .i64 1), (6, .int .i64 (0 : Nat))] ⟨0, rfl, Nat.zero_le _, by simp, rfl, rfl⟩ ⟨rfl, rfl, rfl, rfl, trivial⟩ ?_
  rintro m _ _ _ ⟨k, rfl, hk, rfl, rfl, rfl⟩
  refine code_seq ?_
  refine code_seq ?_
  refine code_region ?_
  refine op_v (v_move rfl) rfl ?_
  refine op_v (v_move rfl) rfl ?_
  refine op_v (v_cmp rfl rfl rfl) rfl ?_
  refine ops_nil ?_
  refine post_next ?_
  refine code_cond rfl (fun hc0 => ?_) (fun hc0 => ?_)
  · have hlt : k < n := by simpa using hc0
    have hb := pow_bound h0 h1 (k + 1) (by omega)
    have hb2 := h44 (k + 1) (by omega)
    rw [Int.pow_succ] at hb
    refine code_skip ?_
    refine post_next ?_
    refine code_seq ?_
    refine code_block ?_
    refine code_region ?_
    refine op_v (v_move rfl) rfl ?_
    refine op_v (v_move rfl) rfl ?_
    refine op_v (v_mulb (c := s ^ k * s) rfl rfl rfl ⟨by omega, by omega⟩) rfl ?_
    refine op_v (v_assign rfl) rfl ?_
    refine ops_nil ?_
    refine post_out ?_
    refine post_next ?_
    refine code_region ?_
    refine op_v (v_move rfl) rfl ?_
    refine op_v (v_addb rfl rfl rfl (by omega)) rfl ?_
    refine op_v (v_assign rfl) rfl ?_
    refine ops_nil ?_
    refine post_again (n - (k + 1)) [(0, .int .i64 s), (1, .int .i64 n), (5, .int .i64 (s ^ k * s)), (6, .int .i64 (k + 1 : Nat))] (by omega) ⟨k + 1, rfl, hlt, by rw [Int.pow_succ], rfl, rfl⟩ ⟨rfl, rfl, rfl, rfl, trivial⟩
  · have hge : k = n := by simp at hc0; omega
    subst hge
    refine code_exit ?_
    refine post_exit_then ?_
    refine post_exit_then ?_
    refine post_exit ?_
    refine post_next ?_
    refine code_seq ?_
    refine code_region ?_
    refine op_v (v_move rfl) rfl ?_
    refine op_v (v_assign rfl) rfl ?_
    refine ops_nil ?_
    refine post_next ?_
    refine code_ret ?_
    refine post_ret (rs := [.tmp 4]) rfl (List.Perm.refl _) (.cons (.tmp rfl) .nil) (List.nil_sublist _) ?_
    exact ⟨rfl, rfl⟩
end Go.Proofs.Ytdbadicpbmndbaa
