/- Own texts, one behind the other: rules of a small program logic, walks through the program's functions, plain facts. No condition. -/
import Derived.Test.YtdbadicpbmndbaaZ2
/- Walks: ways in which a literal is another one. -/
set_option linter.unusedVariables false
set_option linter.unusedSimpArgs false
/- short -/
namespace Go.Proofs.Ytdbadicpbmndbaa
open Go Lg

theorem kind_does {I : Imm} {v : Value} {x : Li} (hv : RepL I v x) :
    Does Try.prog 109 [v] I [] (fun v I' δ' => v = .bool (kindB x) ∧ δ' = []) := by
  obtain ⟨la, lc, ra, rc, rfl, hl, hr⟩ := hv
  refine Does.intro Try.func109 rfl Try.ntmps109 rfl fun w0 => ?_
  refine code_seq ?_
  refine code_region ?_
  refine o_box rfl rfl rfl (fun b1 => ?_)
  refine op_v (v_assign rfl) rfl ?_
  refine ops_nil ?_
  refine post_next ?_
  refine code_seq ?_
  refine code_region ?_
  refine op_v (v_fieldB 1 Try.underlying49 rfl rfl fz47 rfl) rfl ?_
  refine op_v (v_fieldB 0 Try.underlying47 rfl rfl fz3 rfl) rfl ?_
  refine op_v (v_loadA ty3 rfl rfl) rfl ?_
  by_cases h6 : x.l.head = 0
  · refine op_v (v_cmptA rfl rfl rfl) rfl ?_
    refine op_v (v_move rfl) rfl ?_
    refine op_skip rfl rfl (by simp [undef]) rfl ?_
    refine op_skip rfl rfl (by simp [undef]) rfl ?_
    refine op_skip rfl rfl (by simp [undef]) rfl ?_
    refine op_skip rfl rfl (by simp [undef]) rfl ?_
    refine op_v (v_pickt rfl rfl) rfl ?_
    refine op_v (v_assign rfl) rfl ?_
    refine ops_nil ?_
    refine post_next ?_
    refine code_ret ?_
    refine post_ret (rs := [.tmp 2]) rfl (List.Perm.refl _) (.cons (.tmp rfl) .nil) (List.nil_sublist _) ?_
    exact ⟨by unfold kindB; rw [decide_eq_true h6]; rfl, rfl⟩
  · refine op_v (v_cmpfA rfl rfl rfl) rfl ?_
    refine op_v (v_move rfl) rfl ?_
    first
      | (refine op_want rfl rfl ?_
         refine op_v (v_fieldB 3 Try.underlying49 rfl rfl fz47 rfl) rfl ?_)
      | (refine op_skip rfl rfl (by simp [undef]) rfl ?_)
    first
      | (refine op_want rfl rfl ?_
         refine op_v (v_fieldB 0 Try.underlying47 rfl rfl fz3 rfl) rfl ?_)
      | (refine op_skip rfl rfl (by simp [undef]) rfl ?_)
    refine op_want rfl rfl ?_
    refine op_v (v_loadA ty3 rfl rfl) rfl ?_
    by_cases h11 : x.r.head = 0
    · first
        | (refine op_want rfl rfl ?_
           refine op_v (v_cmptA rfl rfl rfl) rfl ?_)
        | (refine op_skip rfl rfl (by simp [undef]) rfl ?_)
      refine op_v (v_pickf rfl rfl) rfl ?_
      refine op_v (v_assign rfl) rfl ?_
      refine ops_nil ?_
      refine post_next ?_
      refine code_ret ?_
      refine post_ret (rs := [.tmp 2]) rfl (List.Perm.refl _) (.cons (.tmp rfl) .nil) (List.nil_sublist _) ?_
      exact ⟨by unfold kindB; rw [decide_eq_true h11, Bool.or_true]; rfl, rfl⟩
    · first
        | (refine op_want rfl rfl ?_
           refine op_v (v_cmpfA rfl rfl rfl) rfl ?_)
        | (refine op_skip rfl rfl (by simp [undef]) rfl ?_)
      refine op_v (v_pickf rfl rfl) rfl ?_
      refine op_v (v_assign rfl) rfl ?_
      refine ops_nil ?_
      refine post_next ?_
      refine code_ret ?_
      refine post_ret (rs := [.tmp 2]) rfl (List.Perm.refl _) (.cons (.tmp rfl) .nil) (List.nil_sublist _) ?_
      exact ⟨by unfold kindB; rw [decide_eq_false h6, decide_eq_false h11]; rfl, rfl⟩
theorem ways_does {I : Imm} {b : Nat} {xs : Mp} {bs : List Bi} {va vl fv : Value} {a l : Li} {δm : List Ent} {Q : (Int → T) → Prop} (hM : MB I xs bs) (hsb : SmB bs) (ha : RepL I va a) (hl : RepL I vl l)
    (h1 : a.l.size ≤ 1000000) (h2 : a.r.size ≤ 1000000) (h3 : l.l.size ≤ 1000000) (h4 : l.r.size ≤ 1000000)
    (hdo : ∀ J b' xs' bs', I.le J → MB J xs' bs' → SmB bs' → FDoes Try.prog fv [.map (some b')] J (.map b' xs' :: δm) (fun v _ δ' => (∃ r, v = .bool r ∧ (r = true ↔ ∃ θ, Ext θ bs' ∧ Q θ)) ∧ δ' = .map b' xs' :: δm)) :
    Does Try.prog 59 [.map (some b), va, vl, fv] I (.map b xs :: δm) (fun v I' δ' => (∃ r, v = .bool r ∧ (r = true ↔ ∃ θ, Ext θ bs ∧ litM θ a l ∧ Q θ)) ∧ δ' = .map b xs :: δm) := by
  have ha0 := ha
  have hl0 := hl
  obtain ⟨pa, pc, qa, qc, rfl, hpl, hpr⟩ := ha
  obtain ⟨la, lc, ra, rc, rfl, hll, hlr⟩ := hl
  refine Does.intro Try.func59 rfl Try.ntmps59 rfl fun w0 => ?_
  refine code_seq ?_
  refine code_region ?_
  refine o_box rfl rfl rfl (fun b5 => ?_)
  refine o_box rfl rfl rfl (fun b6 => ?_)
  refine op_v (v_assign rfl) rfl ?_
  refine ops_nil ?_
  refine post_next ?_
  refine code_seq ?_
  refine code_seq ?_
  refine code_draw (.fl 0 (.fl 2 (.ef 1 (.ef 3 (.fl 4 .done))))) (fun _ => _) mixed (by kernel_rfl) (by kernel_rfl) (fun _ => (List.Sublist.refl _)) ?_
  refine e_fl rfl rfl (fun hs_ => PF.mk rfl (v_loadA ty49 rfl rfl) hs_) ?_
  refine e_fl rfl rfl (fun hs_ => PF.mk rfl (v_loadA ty49 rfl rfl) hs_) ?_
  refine e_eff rfl (by intro cs b hc; cases hc) (by intro c hc; cases hc) ?_
  refine op_call pl109 rfl rfl ((kind_does (ha0.mono Imm.leA))) Parts.none ?_
  rintro v14 I14 _ hI14 ⟨rfl, rfl⟩
  refine ops_nil ?_
  refine e_next rfl side_allA ?_
  refine e_eff rfl (by intro cs b hc; cases hc) (by intro c hc; cases hc) ?_
  refine op_call pl109 rfl rfl ((kind_does (hl0.mono Imm.leA))) Parts.none ?_
  rintro v16 I16 _ hI16 ⟨rfl, rfl⟩
  refine ops_nil ?_
  refine e_next rfl (side_nil (by kernel_rfl)) ?_
  by_cases hk : kindB a = kindB l
  · refine e_fl rfl rfl (fun hs_ => PF.mk rfl (v_eqb (z := false) Try.underlying4 rfl rfl (by rw [hk]; simp [cmpB])) hs_) ?_
    refine e_done ?_
    refine post_next ?_
    refine code_cond_f rfl ?_
    refine code_skip ?_
    refine post_next ?_
    refine code_seq ?_
    refine code_seq ?_
    refine code_region ?_
    refine op_v (v_fieldB 1 Try.underlying49 rfl rfl fz47 rfl) rfl ?_
    refine op_v (v_loadA ty47 rfl rfl) rfl ?_
    refine op_v (v_fieldB 3 Try.underlying49 rfl rfl fz47 rfl) rfl ?_
    refine op_v (v_loadA ty47 rfl rfl) rfl ?_
    refine op_v (v_buildK (v := .agg #[.int .i64 l.l.head, .slice la l.l.args.length lc, .int .i64 l.r.head, .slice ra l.r.args.length rc]) rfl (fun _ => by kernel_rfl)) rfl ?_
    refine op_v (v_fieldB 3 Try.underlying49 rfl rfl fz47 rfl) rfl ?_
    refine op_v (v_loadA ty47 rfl rfl) rfl ?_
    refine op_v (v_fieldB 1 Try.underlying49 rfl rfl fz47 rfl) rfl ?_
    refine op_v (v_loadA ty47 rfl rfl) rfl ?_
    refine op_v (v_buildK (v := .agg #[.int .i64 l.r.head, .slice ra l.r.args.length rc, .int .i64 l.l.head, .slice la l.l.args.length lc]) rfl (fun _ => by kernel_rfl)) rfl ?_
    refine o_buildSlice (xs := [(Go.Operand.tmp 22), (Go.Operand.tmp 27)]) Try.underlying128 bs127 rfl rfl rfl rfl rfl (fun b28 => ?_)
    refine op_v (v_len Try.underlying128 rfl) rfl ?_
    refine op_v (v_move rfl) rfl ?_
    refine ops_nil ?_
    refine post_next ?_
    refine code_block ?_
    have hb28 : (some (⟨b28, 0, none⟩ : Addr)).isSome = true := rfl
    refine CodeJ.view (View.perm (List.perm_middle (l₁ := [_, _, _]))) ?_
    refine code_loop (fun m σ' I' δ' => ∃ k : Nat, m = 2 - k ∧ k ≤ 2 ∧ σ' = [(0, .map (some b)), (3, fv), (5, .pointer (some ⟨b5, 0, none⟩)), (6, .pointer (some ⟨b6, 0, none⟩)), (28, .slice (some ⟨b28, 0, none⟩) 2 2), (29, .int .i64 (2 : Nat)), (30, .int .i64 k)] ∧ I16.le I' ∧ δ' = .map b xs :: .row (.slice (some ⟨b28, 0, none⟩) 2 2) 127 4 2 [.int .i64 l.l.head, .slice la l.l.args.length lc, .int .i64 l.r.head, .slice ra l.r.args.length rc, .int .i64 l.r.head, .slice ra l.r.args.length rc, .int .i64 l.l.head, .slice la l.l.args.length lc] :: .box b6 49 (liC l la lc ra rc) :: .box b5 49 (liC a pa pc qa qc) :: δm ∧ (0 < k → ¬ ∃ θ, Ext θ bs ∧ (pT θ a.l = l.l ∧ pT θ a.r = l.r) ∧ Q θ) ∧ (1 < k → ¬ ∃ θ, Ext θ bs ∧ (pT θ a.l = l.r ∧ pT θ a.r = l.l) ∧ Q θ)) 2 [(0, .map (some b)), (3, fv), (5, .pointer (some ⟨b5, 0, none⟩)), (6, .pointer (some ⟨b6, 0, none⟩)), (28, .slice (some ⟨b28, 0, none⟩) 2 2), (29, .int .i64 (2 : Nat)), (30, .int .i64 (0 : Nat))] ⟨0, rfl, by omega, rfl, Imm.le_refl _, rfl, fun h => by omega, fun h => by omega⟩ ⟨rfl, rfl, rfl, rfl, rfl, rfl, rfl, trivial⟩ ?_
    rintro m _ I0 _ ⟨k, rfl, hk2, rfl, hI0, rfl, hn0, hn1⟩
    refine code_seq ?_
    refine code_region ?_
    refine op_v (v_cmp rfl rfl rfl) rfl ?_
    refine ops_nil ?_
    refine post_next ?_
    refine code_seq ?_
    refine code_cond rfl (fun hc1 => ?_) (fun hc1 => ?_)
    · have hlt : k < 2 := by have h := hc1; simp at h; omega
      obtain ⟨y0, y1, s0, c0, s1, c1, hld, hr0, hr1, hz0, hz1, hyy⟩ : ∃ (y0 y1 : T) (s0 : Option Addr) (c0 : Nat) (s1 : Option Addr) (c1 : Nat), ld true 4 (List.drop (k * 4) [Value.int .i64 l.l.head, .slice la l.l.args.length lc, .int .i64 l.r.head, .slice ra l.r.args.length rc, .int .i64 l.r.head, .slice ra l.r.args.length rc, .int .i64 l.l.head, .slice la l.l.args.length lc]) = some (.agg #[.int .i64 y0.head, .slice s0 y0.args.length c0, .int .i64 y1.head, .slice s1 y1.args.length c1]) ∧ RepT I (.agg #[.int .i64 y0.head, .slice s0 y0.args.length c0]) y0 ∧ RepT I (.agg #[.int .i64 y1.head, .slice s1 y1.args.length c1]) y1 ∧ y0.size ≤ 1000000 ∧ y1.size ≤ 1000000 ∧ ((k = 0 ∧ y0 = l.l ∧ y1 = l.r) ∨ (k = 1 ∧ y0 = l.r ∧ y1 = l.l)) := by
        have hk01 : k = 0 ∨ k = 1 := by omega
        rcases hk01 with rfl | rfl
        · exact ⟨l.l, l.r, la, lc, ra, rc, rfl, hll, hlr, h3, h4, .inl ⟨rfl, rfl, rfl⟩⟩
        · exact ⟨l.r, l.l, ra, rc, la, lc, rfl, hlr, hll, h4, h3, .inr ⟨rfl, rfl, rfl⟩⟩
      have hlit : ∀ θ, (pT θ a.l = y0 ∧ pT θ a.r = y1) → litM θ a l := fun θ h => by
        rcases hyy with ⟨_, e1, e2⟩ | ⟨_, e1, e2⟩
        · rw [e1, e2] at h; exact ⟨hk, .inl h⟩
        · rw [e1, e2] at h; exact ⟨hk, .inr h⟩
      have hgo : (¬ ∃ θ, Ext θ bs ∧ (pT θ a.l = y0 ∧ pT θ a.r = y1) ∧ Q θ) → (0 < k + 1 → ¬ ∃ θ, Ext θ bs ∧ (pT θ a.l = l.l ∧ pT θ a.r = l.r) ∧ Q θ) ∧ (1 < k + 1 → ¬ ∃ θ, Ext θ bs ∧ (pT θ a.l = l.r ∧ pT θ a.r = l.l) ∧ Q θ) := fun h => by
        rcases hyy with ⟨ek, e1, e2⟩ | ⟨ek, e1, e2⟩
        · rw [e1, e2] at h; exact ⟨fun _ => h, fun q => by omega⟩
        · rw [e1, e2] at h; exact ⟨fun _ => hn0 (by omega), fun _ => h⟩
      refine code_skip ?_
      refine post_next ?_
      refine code_seq ?_
      refine code_block ?_
      refine code_seq ?_
      refine code_region ?_
      refine op_v (v_indexA Try.underlying128 sz127 rfl rfl) rfl ?_
      refine op_v (v_loadRow (v := .agg #[.int .i64 y0.head, .slice s0 y0.args.length c0, .int .i64 y1.head, .slice s1 y1.args.length c1]) ty127 rfl (Has.there Has.here) rfl hld) rfl ?_
      refine o_alloc z127 rfl rfl (fun b10 => ?_)
      refine o_store ty127 rfl rfl rfl rfl rfl (by repeat (first | exact Swap.here | apply Swap.there)) rfl ?_
      refine ops_nil ?_
      refine post_next ?_
      refine code_seq ?_
      refine code_region ?_
      refine op_v (v_move rfl) rfl ?_
      refine op_v (v_fieldB 1 Try.underlying49 rfl rfl fz47 rfl) rfl ?_
      refine op_v (v_loadA ty47 rfl rfl) rfl ?_
      refine op_v (v_indexArr (i := 0) Try.underlying127 sz47 rfl rfl (by omega)) rfl ?_
      refine op_v (v_loadA ty47 rfl rfl) rfl ?_
      refine op_call pl110 rfl rfl ((with_does (hM.mono Imm.leA) hsb (hpl.mono Imm.leA) (hr0.mono Imm.leA) h1 hz0)) (Parts.one (Del.there Del.here)) ?_
      rintro v39 I39 δ39 hI39 HR39
      refine op_v (v_assign rfl) rfl ?_
      refine ops_nil ?_
      refine post_next ?_
      refine code_seq ?_
      refine code_region ?_
      rcases HR39 with ⟨rfl, rfl, hno⟩ | ⟨b39, ms, bs1, rfl, rfl, hM1, hsb1, hiff1⟩
      · refine op_v (v_move rfl) rfl ?_
        refine op_v (v_mapq Try.underlying87 rfl rfl rfl) rfl ?_
        refine ops_nil ?_
        refine post_next ?_
        refine code_cond_f rfl ?_
        refine code_skip ?_
        refine post_out ?_
        refine post_next ?_
        refine code_region ?_
        refine op_v (v_addb rfl rfl rfl (by omega)) rfl ?_
        refine op_v (v_move rfl) rfl ?_
        refine ops_nil ?_
        refine PostJ.view (View.drop (Del.there Del.here)) ?_
        obtain ⟨hg0, hg1⟩ := hgo (by rintro ⟨θ, e1, ⟨e2, _⟩, _⟩; exact hno θ ⟨e1, e2⟩)
        refine post_again (2 - (k + 1)) [(0, .map (some b)), (3, fv), (5, .pointer (some ⟨b5, 0, none⟩)), (6, .pointer (some ⟨b6, 0, none⟩)), (28, .slice (some ⟨b28, 0, none⟩) 2 2), (29, .int .i64 (2 : Nat)), (30, .int .i64 (k + 1 : Nat))] (by omega) ⟨k + 1, rfl, by omega, rfl, Imm.leA, rfl, hg0, hg1⟩ ⟨rfl, rfl, rfl, rfl, rfl, rfl, rfl, trivial⟩
      · refine op_v (v_move rfl) rfl ?_
        refine op_v (v_mapq Try.underlying87 rfl rfl rfl) rfl ?_
        refine ops_nil ?_
        refine post_next ?_
        refine code_cond_t rfl ?_
        refine code_seq ?_
        refine code_region ?_
        refine op_v (v_move rfl) rfl ?_
        refine op_v (v_fieldB 3 Try.underlying49 rfl rfl fz47 rfl) rfl ?_
        refine op_v (v_loadA ty47 rfl rfl) rfl ?_
        refine op_v (v_indexArr (i := 1) Try.underlying127 sz47 rfl rfl (by omega)) rfl ?_
        refine op_v (v_loadA ty47 rfl rfl) rfl ?_
        refine op_call pl110 rfl rfl ((with_does hM1 hsb1 (hpr.mono Imm.leA) (hr1.mono Imm.leA) h2 hz1)) (Parts.one Del.here) ?_
        rintro v47 I47 δ47 hI47 HR47
        refine op_v (v_assign rfl) rfl ?_
        refine ops_nil ?_
        refine post_next ?_
        refine code_seq ?_
        refine code_region ?_
        rcases HR47 with ⟨rfl, rfl, hno⟩ | ⟨b47, ms2, bs2, rfl, rfl, hM2, hsb2, hiff2⟩
        · refine op_v (v_move rfl) rfl ?_
          refine op_v (v_mapq Try.underlying87 rfl rfl rfl) rfl ?_
          refine op_v (v_move rfl) rfl ?_
          refine op_skip rfl rfl (by simp [undef]) rfl ?_
          refine op_skip rfl rfl (by simp [undef]) rfl ?_
          refine op_skip rfl rfl (by simp [undef]) rfl ?_
          refine op_v (v_pickf rfl rfl) rfl ?_
          refine ops_nil ?_
          refine post_next ?_
          refine code_cond_f rfl ?_
          refine code_skip ?_
          refine post_out ?_
          refine post_next ?_
          refine code_region ?_
          refine op_v (v_addb rfl rfl rfl (by omega)) rfl ?_
          refine op_v (v_move rfl) rfl ?_
          refine ops_nil ?_
          refine PostJ.view ((View.drop Del.here).trans (View.drop (Del.there Del.here))) ?_
          obtain ⟨hg0, hg1⟩ := hgo (by rintro ⟨θ, e1, ⟨e2, e3⟩, _⟩; exact hno θ ⟨(hiff1 θ).1 ⟨e1, e2⟩, e3⟩)
          refine post_again (2 - (k + 1)) [(0, .map (some b)), (3, fv), (5, .pointer (some ⟨b5, 0, none⟩)), (6, .pointer (some ⟨b6, 0, none⟩)), (28, .slice (some ⟨b28, 0, none⟩) 2 2), (29, .int .i64 (2 : Nat)), (30, .int .i64 (k + 1 : Nat))] (by omega) ⟨k + 1, rfl, by omega, rfl, Imm.leA, rfl, hg0, hg1⟩ ⟨rfl, rfl, rfl, rfl, rfl, rfl, rfl, trivial⟩
        · refine op_v (v_move rfl) rfl ?_
          refine op_v (v_mapq Try.underlying87 rfl rfl rfl) rfl ?_
          refine op_v (v_move rfl) rfl ?_
          refine op_want rfl rfl ?_
          refine op_v (v_move rfl) rfl ?_
          refine op_want rfl rfl ?_
          refine op_v (v_move rfl) rfl ?_
          refine op_want rfl rfl ?_
          refine op_fcall rfl rfl rfl ((hdo _ _ _ _ Imm.leA hM2 hsb2)) (List.Perm.cons _ (List.perm_append_comm (l₁ := [_, _, _, _, _, _]))) ?_
          rintro v53 I53 _ hI53 ⟨⟨r53, rfl, hr53⟩, rfl⟩
          refine OpsJ.view (View.perm (List.Perm.cons _ (List.perm_append_comm (l₂ := [_, _, _, _, _, _])))) ?_
          have hr53' : r53 = true ↔ ∃ θ, Ext θ bs ∧ (pT θ a.l = y0 ∧ pT θ a.r = y1) ∧ Q θ := by
            rw [hr53]
            constructor
            · rintro ⟨θ, e1, e2⟩
              obtain ⟨e3, e4⟩ := (hiff2 θ).2 e1
              obtain ⟨e5, e6⟩ := (hiff1 θ).2 e3
              exact ⟨θ, e5, ⟨e6, e4⟩, e2⟩
            · rintro ⟨θ, e5, ⟨e6, e4⟩, e2⟩
              exact ⟨θ, (hiff2 θ).1 ⟨(hiff1 θ).1 ⟨e5, e6⟩, e4⟩, e2⟩
          refine op_v (v_pickt rfl rfl) rfl ?_
          refine ops_nil ?_
          refine post_next ?_
          refine code_cond rfl (fun hc3 => ?_) (fun hc3 => ?_)
          · have hq : r53 = true := hc3
            refine code_seq ?_
            refine code_region ?_
            refine op_v (v_assign rfl) rfl ?_
            refine ops_nil ?_
            refine post_next ?_
            refine code_ret ?_
            refine post_ret_block ?_
            refine post_ret_then ?_
            refine post_ret_then ?_
            refine post_ret_block ?_
            refine post_ret_then ?_
            refine post_ret (rs := [.tmp 8]) rfl (List.Perm.refl _) (.cons (.tmp rfl) .nil) (List.Sublist.cons _ (List.Sublist.cons _ (List.Sublist.cons_cons _ (List.Sublist.cons _ (List.Sublist.cons _ (List.Sublist.cons _ (List.Sublist.cons _ (List.Sublist.refl _)))))))) ?_
            exact ⟨⟨true, rfl, by simp only [true_iff]; obtain ⟨θ, e1, e2, e3⟩ := hr53'.1 hq; exact ⟨θ, e1, hlit θ e2, e3⟩⟩, rfl⟩
          · have hq : ¬ r53 = true := by rw [hc3]; simp
            refine code_skip ?_
            refine post_out ?_
            refine post_next ?_
            refine code_region ?_
            refine op_v (v_addb rfl rfl rfl (by omega)) rfl ?_
            refine op_v (v_move rfl) rfl ?_
            refine ops_nil ?_
            refine PostJ.view ((View.drop Del.here).trans ((View.drop Del.here).trans (View.drop (Del.there Del.here)))) ?_
            obtain ⟨hg0, hg1⟩ := hgo (fun h => hq (hr53'.2 h))
            refine post_again (2 - (k + 1)) [(0, .map (some b)), (3, fv), (5, .pointer (some ⟨b5, 0, none⟩)), (6, .pointer (some ⟨b6, 0, none⟩)), (28, .slice (some ⟨b28, 0, none⟩) 2 2), (29, .int .i64 (2 : Nat)), (30, .int .i64 (k + 1 : Nat))] (by omega) ⟨k + 1, rfl, by omega, rfl, Imm.leA, rfl, hg0, hg1⟩ ⟨rfl, rfl, rfl, rfl, rfl, rfl, rfl, trivial⟩
    · have hge : k = 2 := by have h := hc1; simp at h; omega
      refine code_exit ?_
      refine post_exit_then ?_
      refine post_exit_then ?_
      refine post_exit ?_
      refine post_next ?_
      refine code_seq ?_
      refine code_region ?_
      refine op_v (v_assign rfl) rfl ?_
      refine ops_nil ?_
      refine post_next ?_
      refine code_ret ?_
      refine post_ret (rs := [.tmp 8]) rfl (List.Perm.refl _) (.cons (.tmp rfl) .nil) (List.Sublist.cons_cons _ (List.Sublist.cons _ (List.Sublist.cons _ (List.Sublist.cons _ (List.Sublist.refl _))))) ?_
      exact ⟨⟨false, rfl, by simp only [Bool.false_eq_true, false_iff]; rintro ⟨θ, e1, ⟨_, e2 | e2⟩, e3⟩; exact hn0 (by omega) ⟨θ, e1, e2, e3⟩; exact hn1 (by omega) ⟨θ, e1, e2, e3⟩⟩, rfl⟩
  · refine e_fl rfl rfl (fun hs_ => PF.mk rfl (v_eqb (z := true) Try.underlying4 rfl rfl (by simp [cmpB, hk])) hs_) ?_
    refine e_done ?_
    refine post_next ?_
    refine code_cond_t rfl ?_
    refine code_seq ?_
    refine code_region ?_
    refine op_v (v_assign rfl) rfl ?_
    refine ops_nil ?_
    refine post_next ?_
    refine code_ret ?_
    refine post_ret_then ?_
    refine post_ret (rs := [.tmp 8]) rfl (List.Perm.refl _) (.cons (.tmp rfl) .nil) (List.Sublist.cons _ (List.Sublist.cons _ (List.Sublist.refl _))) ?_
    exact ⟨⟨false, rfl, by simp only [Bool.false_eq_true, false_iff]; rintro ⟨θ, _, hq, _⟩; exact hk hq.1⟩, rfl⟩
end Go.Proofs.Ytdbadicpbmndbaa
/- Walks: rows of literals: a clone, all sides, whether they are few. -/
set_option linter.unusedVariables false
set_option linter.unusedSimpArgs false
set_option linter.unnecessarySimpa false
/- short -/
namespace Go.Proofs.Ytdbadicpbmndbaa
open Go Lg

theorem CloneC_does {I : Imm} {v : Value} {c : List Li} (hv : RepC I v c) :
    Does Try.prog 58 [v] I [] (fun v I' δ' => ∃ ad' c' xs, v = .slice ad' c.length c' ∧ RowE LitE I' xs c ∧ δ' = [.row (.slice ad' c.length c') 49 5 c.length xs]) := by
  obtain ⟨ad, c0, xs, rfl, hc, hb, hcells, hrow⟩ := hv
  refine Does.intro Try.func58 rfl Try.ntmps58 rfl fun w0 => ?_
  have hxl := hrow.length
  refine code_seq ?_
  refine code_region ?_
  refine op_v (v_assign rfl) rfl ?_
  refine ops_nil ?_
  refine post_next ?_
  refine code_seq ?_
  refine code_seq ?_
  refine code_region ?_
  refine op_v (v_move rfl) rfl ?_
  refine op_v (v_nilq Try.underlying26 rfl rfl rfl) rfl ?_
  refine ops_nil ?_
  refine post_next ?_
  refine code_cond rfl (fun hc0 => ?_) (fun hc0 => ?_)
  · have had : ad = none := by simpa using hc0
    subst had
    have hn0 : c = [] := by
      rcases c with _ | ⟨x, r⟩
      · rfl
      · exfalso
        obtain ⟨vs, ⟨la, lc, ra, rc, rfl, _⟩, hat⟩ := hrow.cellsAt hcells (i := 0) (by simp)
        have := hat.isSome
        simp at this
    subst hn0
    refine code_seq ?_
    refine code_region ?_
    refine op_v (v_assign rfl) rfl ?_
    refine ops_nil ?_
    refine post_next ?_
    refine code_ret ?_
    refine post_ret_then ?_
    refine PostJ.view (View.nilRow 49 5) (post_ret (rs := [.tmp 2]) rfl (List.Perm.refl _) (.cons (.tmp rfl) .nil) (List.Sublist.refl _) ⟨none, 0, [], rfl, rfl, rfl⟩)
  · refine code_skip ?_
    refine post_next ?_
    refine code_seq ?_
    refine code_region ?_
    refine o_buildSlice (xs := []) Try.underlying26 bs49 rfl rfl rfl rfl rfl (fun b5 => ?_)
    refine op_v (v_move rfl) rfl ?_
    refine o_append Try.underlying26 bs49 rfl rfl rfl (fun v' => by repeat (first | exact Swap.here | apply Swap.there)) (Src.ofI hcells) hxl hrow.one1 (by omega) (by omega) (fun a7 c7 => ?_)
    refine op_v (v_assign rfl) rfl ?_
    refine ops_nil ?_
    refine post_next ?_
    refine code_ret ?_
    refine post_ret (rs := [.tmp 2]) rfl (List.Perm.refl _) (.cons (.tmp rfl) .nil) (List.Sublist.refl _) ?_
    refine ⟨a7, c7, xs, ?_, hrow.mono Imm.leA, ?_⟩
    · simp [outV]
    · simp [cat]
theorem sidesL_len (c : List Li) : (sidesL c).length = 2 * c.length := by
  induction c with
  | nil => rfl
  | cons x r ih => simp only [sidesL, List.flatMap_cons, List.length_append, List.length_cons, List.length_nil] at ih ⊢; omega
theorem sidesL_take (c : List Li) (k : Nat) (h : k < c.length) : sidesL (c.take (k + 1)) = sidesL (c.take k) ++ [c[k].l, c[k].r] := by
  rw [List.take_succ_eq_append_getElem h]; simp only [sidesL, List.flatMap_append, List.flatMap_cons, List.flatMap_nil, List.append_nil]
theorem Terms_does {I : Imm} {v : Value} {c : List Li} (hv : RepC I v c) :
    Does Try.prog 39 [v] I [] (fun v I' δ' => RepS I' v (sidesL c) ∧ δ' = []) := by
  obtain ⟨ad, c0, xs, rfl, hc, hb, hcells, hrow⟩ := hv
  refine Does.intro Try.func39 rfl Try.ntmps39 rfl fun w0 => ?_
  refine code_seq ?_
  refine code_region ?_
  refine op_v (v_assign rfl) rfl ?_
  refine ops_nil ?_
  refine post_next ?_
  refine code_seq ?_
  refine code_region ?_
  refine op_v (v_assign rfl) rfl ?_
  refine ops_nil ?_
  refine post_next ?_
  refine code_seq ?_
  refine code_seq ?_
  refine code_region ?_
  refine op_v (v_assign rfl) rfl ?_
  refine ops_nil ?_
  refine post_next ?_
  refine code_block ?_
  refine CodeJ.view (View.nilRow 47 2) ?_
  refine code_loop (fun m σ' I' δ' => ∃ (k : Nat) (A : Option Addr) (c' : Nat) (ys : List Value), m = c.length - k ∧ k ≤ c.length ∧ σ' = [(0, .slice ad c.length c0), (3, .slice A (2 * k) c'), (4, .int .i64 k)] ∧ I = I' ∧ δ' = [.row (.slice A (2 * k) c') 47 2 (2 * k) ys] ∧ RowE TermE I ys (sidesL (c.take k))) c.length [(0, .slice ad c.length c0), (3, .slice none (2 * 0) 0), (4, .int .i64 (0 : Nat))] ⟨0, none, 0, [], rfl, Nat.zero_le _, rfl, rfl, rfl, rfl⟩ ⟨rfl, rfl, rfl, trivial⟩ ?_
  rintro m _ _ _ ⟨k, A, c', ys, rfl, hk, rfl, rfl, rfl, hys⟩
  refine code_seq ?_
  refine code_seq ?_
  refine code_region ?_
  refine op_v (v_move rfl) rfl ?_
  refine op_v (v_move rfl) rfl ?_
  refine op_v (v_len Try.underlying26 rfl) rfl ?_
  refine op_v (v_cmp rfl rfl rfl) rfl ?_
  refine ops_nil ?_
  refine post_next ?_
  refine code_cond rfl (fun hc0 => ?_) (fun hc0 => ?_)
  · have hlt : k < c.length := by simpa using hc0
    obtain ⟨vs, ⟨la, lc, ra, rc, rfl, hl, hr⟩, hat⟩ := hrow.cellsAt hcells hlt
    have hs1 := hat.isSome
    refine code_skip ?_
    refine post_next ?_
    refine code_seq ?_
    refine code_block ?_
    refine code_draw (.fl 0 (.fl 1 (.fl 2 (.fl 3 (.fl 4 (.fl 5 (.fl 6 (.fl 7 (.fl 8 (.fl 9 (.fl 10 (.ef 11 (.ef 12 (.ef 13 .done)))))))))))))) (fun _ => ([] : List Ent)) mixed (by kernel_rfl) (by kernel_rfl) (fun _ => (List.nil_sublist _)) ?_
    refine e_fl rfl rfl (fun hs_ => PF.mk rfl (v_move rfl) hs_) ?_
    refine e_fl rfl rfl (fun hs_ => PF.mk rfl (v_move rfl) hs_) ?_
    refine e_fl rfl rfl (fun hs_ => PF.mk rfl (v_move rfl) hs_) ?_
    refine e_fl rfl rfl (fun hs_ => PF.mk rfl (v_indexA Try.underlying26 sz49 rfl rfl) hs_) ?_
    refine e_fl rfl rfl (fun hs_ => PF.mk rfl (v_fieldI 1 Try.underlying49 rfl rfl fz47 rfl (by assumption)) hs_) ?_
    refine e_fl rfl rfl (fun hs_ => PF.mk rfl (v_loadI (k := 1) ty47 hat rfl rfl rfl) hs_) ?_
    refine e_fl rfl rfl (fun hs_ => PF.mk rfl (v_move rfl) hs_) ?_
    refine e_fl rfl rfl (fun hs_ => PF.mk rfl (v_move rfl) hs_) ?_
    refine e_fl rfl rfl (fun hs_ => PF.mk rfl (v_indexA Try.underlying26 sz49 rfl rfl) hs_) ?_
    refine e_fl rfl rfl (fun hs_ => PF.mk rfl (v_fieldI 3 Try.underlying49 rfl rfl fz47 rfl (by assumption)) hs_) ?_
    refine e_fl rfl rfl (fun hs_ => PF.mk rfl (v_loadI (k := 3) ty47 hat rfl rfl rfl) hs_) ?_
    refine e_eff rfl (by intro cs b hc; cases hc) (by intro c hc; cases hc) ?_
    refine o_buildSlice (xs := [(Go.Operand.tmp 16), (Go.Operand.tmp 21)]) Try.underlying45 bs47 rfl rfl rfl rfl rfl (fun b22 => ?_)
    refine ops_nil ?_
    refine e_next rfl side_allA ?_
    refine e_eff rfl (by intro cs b hc; cases hc) (by intro c hc; cases hc) ?_
    refine o_append Try.underlying45 bs47 rfl rfl rfl (fun v' => by repeat (first | exact Swap.here | apply Swap.there)) (Src.ofRow (by repeat (first | exact Has.here | apply Has.there)) rfl) (by first | rfl | omega | simp) (by simp [cat, cellsL, Value.oneCell']) (by omega) (by omega) (fun a23 c23 => ?_)
    refine ops_nil ?_
    refine e_next rfl side_allA ?_
    refine e_eff rfl (by intro cs b hc; cases hc) (by intro c hc; cases hc) ?_
    refine op_v (v_assign rfl) rfl ?_
    refine ops_nil ?_
    refine e_next rfl (side_nil (by kernel_rfl)) ?_
    refine e_done ?_
    refine post_out ?_
    refine post_next ?_
    refine code_region ?_
    refine op_v (v_move rfl) rfl ?_
    refine op_v (v_addb rfl rfl rfl (by omega)) rfl ?_
    refine op_v (v_assign rfl) rfl ?_
    refine ops_nil ?_
    refine PostJ.view (View.drop Del.here) ?_
    refine post_again (c.length - (k + 1)) [(0, .slice ad c.length c0), (3, .slice a23 (2 * (k + 1)) c23), (4, .int .i64 (k + 1 : Nat))] (by omega) ⟨k + 1, a23, c23, ys ++ [.int .i64 c[k].l.head, .slice la c[k].l.args.length lc, .int .i64 c[k].r.head, .slice ra c[k].r.args.length rc], rfl, hlt, rfl, rfl, ?_, ?_⟩ ⟨rfl, rfl, rfl, trivial⟩
    · simp [cat, cellsL]; omega
    · rw [sidesL_take c k hlt]
      exact hys.app ⟨[.int .i64 c[k].l.head, .slice la c[k].l.args.length lc], [.int .i64 c[k].r.head, .slice ra c[k].r.args.length rc], rfl, ⟨la, lc, rfl, hl⟩, RowE.single ⟨ra, rc, rfl, hr⟩⟩
  · have hge : k = c.length := by simp at hc0; omega
    subst hge
    rw [List.take_length] at hys
    refine code_exit ?_
    refine post_exit_then ?_
    refine post_exit_then ?_
    refine post_exit ?_
    refine post_next ?_
    refine code_seq ?_
    refine code_region ?_
    refine OpsJ.freezeRow Del.here ?_
    rintro I24 a24 c24 hI24 hq hc24 hl24 hcells24
    cases hq
    refine op_v (v_move rfl) rfl ?_
    refine op_v (v_assign rfl) rfl ?_
    refine ops_nil ?_
    refine post_next ?_
    refine code_ret ?_
    refine post_ret (rs := [.tmp 2]) rfl (List.Perm.refl _) (.cons (.tmp rfl) .nil) (List.nil_sublist _) ?_
    refine ⟨?_, rfl⟩
    have h2 := sidesL_len c
    have := RowE.repS (c := c') (hys.mono hI24) hcells24 (by omega) (by omega)
    rw [h2] at this; exact this
theorem sizeL_getL {ts : List T} {n : Nat} (h : sizeL ts ≤ n) : ∀ x ∈ ts, x.size ≤ n := by
  intro x hx
  obtain ⟨i, hi, rfl⟩ := List.getElem_of_mem hx
  have h1 := sizeL_take ts i hi
  have h2 : sizeL (ts.take (i + 1)) + sizeL (ts.drop (i + 1)) = sizeL ts := by rw [← sizeL_app, List.take_append_drop]
  omega
theorem Few5_does {I : Imm} {v : Value} {ts : List T} (hv : RepS I v ts) :
    Does Try.prog 73 [v] I [] (fun v I' δ' => (∃ b, v = .bool b ∧ (b = true → sizeL ts ≤ 500)) ∧ δ' = []) := by
  obtain ⟨ad, c, ss, ts, hc, hb, hat, hr, hsub0⟩ := hv
  have hsub : ∀ i (h : i < ts.length), RepT I (.agg #[.int .i64 ts[i].head, .slice (ss i).1 ts[i].args.length (ss i).2]) ts[i] := fun i hi => RepT.mk _ _ (hr i hi) (hsub0 i hi)
  refine Does.intro Try.func73 rfl Try.ntmps73 rfl fun w0 => ?_
  refine code_seq ?_
  refine code_region ?_
  refine op_v (v_assign rfl) rfl ?_
  refine ops_nil ?_
  refine post_next ?_
  refine code_seq ?_
  refine code_region ?_
  refine op_v (v_assign rfl) rfl ?_
  refine ops_nil ?_
  refine post_next ?_
  refine code_seq ?_
  refine code_seq ?_
  refine code_region ?_
  refine op_v (v_assign rfl) rfl ?_
  refine ops_nil ?_
  refine post_next ?_
  refine code_block ?_
  refine code_loop (fun m σ' I' δ' => ∃ (k n : Nat), m = ts.length - k ∧ k ≤ ts.length ∧ σ' = [(0, .slice ad ts.length c), (3, .int .i64 n), (4, .int .i64 k)] ∧ I.le I' ∧ δ' = [] ∧ n ≤ 2000 ∧ (n ≤ 500 → n = sizeL (ts.take k))) ts.length [(0, .slice ad ts.length c), (3, .int .i64 (0 : Nat)), (4, .int .i64 (0 : Nat))] ⟨0, 0, rfl, Nat.zero_le _, rfl, Imm.le_refl _, rfl, by omega, fun _ => rfl⟩ ⟨rfl, rfl, rfl, trivial⟩ ?_
  rintro m _ I0 _ ⟨k, n, rfl, hk, rfl, hI0, rfl, hn, hp⟩
  refine code_seq ?_
  refine code_seq ?_
  refine code_region ?_
  refine op_v (v_move rfl) rfl ?_
  refine op_v (v_move rfl) rfl ?_
  refine op_v (v_len Try.underlying45 rfl) rfl ?_
  by_cases h7 : k < ts.length
  · have hs1 := (hat k h7).isSome
    have hst := sizeL_take ts k h7
    refine op_v (v_cmptA rfl rfl rfl) rfl ?_
    refine op_v (v_move rfl) rfl ?_
    refine op_want rfl rfl ?_
    refine op_v (v_move rfl) rfl ?_
    by_cases h16 : n ≤ 500
    · first
        | (refine op_want rfl rfl ?_
           refine op_v (v_cmptA rfl rfl rfl) rfl ?_)
        | (refine op_skip rfl rfl (by simp [undef]) rfl ?_)
      refine op_v (v_pickt rfl rfl) rfl ?_
      refine ops_nil ?_
      refine post_next ?_
      refine code_cond_t rfl ?_
      refine code_skip ?_
      refine post_next ?_
      refine code_seq ?_
      refine code_block ?_
      refine code_region ?_
      refine op_v (v_move rfl) rfl ?_
      refine op_v (v_move rfl) rfl ?_
      refine op_v (v_move rfl) rfl ?_
      refine op_v (v_indexA Try.underlying45 sz47 rfl rfl) rfl ?_
      refine op_v (v_loadI0 ty47 ((hat k h7).mono hI0) rfl rfl rfl) rfl ?_
      refine op_call pl82 rfl rfl ((Count_does _ _ (Nat.le_refl _) 500 (by omega) _ _ ((hsub k h7).mono hI0))) Parts.none ?_
      rintro v20 I20 _ hI20 ⟨rfl, rfl⟩
      refine op_v (v_addb rfl rfl rfl (by omega)) rfl ?_
      refine op_v (v_assign rfl) rfl ?_
      refine ops_nil ?_
      refine post_out ?_
      refine post_next ?_
      refine code_region ?_
      refine op_v (v_move rfl) rfl ?_
      refine op_v (v_addb rfl rfl rfl (by omega)) rfl ?_
      refine op_v (v_assign rfl) rfl ?_
      refine ops_nil ?_
      refine post_again (ts.length - (k + 1)) [(0, .slice ad ts.length c), (3, .int .i64 ((n : Int) + ((min ts[k].size (500 + 1) : Nat) : Int))), (4, .int .i64 (k + 1 : Nat))] (by omega) ⟨k + 1, n + min ts[k].size (500 + 1), rfl, h7, by rw [show ((n + min ts[k].size (500 + 1) : Nat) : Int) = (n : Int) + ((min ts[k].size (500 + 1) : Nat) : Int) from Int.natCast_add _ _], Imm.leA, rfl, by omega, fun hq => ?_⟩ ⟨rfl, rfl, rfl, trivial⟩
      have := hp (by omega)
      omega
    · first
        | (refine op_want rfl rfl ?_
           refine op_v (v_cmpfA rfl rfl rfl) rfl ?_)
        | (refine op_skip rfl rfl (by simp [undef]) rfl ?_)
      refine op_v (v_pickt rfl rfl) rfl ?_
      refine ops_nil ?_
      refine post_next ?_
      refine code_cond_f rfl ?_
      refine code_exit ?_
      refine post_exit_then ?_
      refine post_exit_then ?_
      refine post_exit ?_
      refine post_next ?_
      refine code_seq ?_
      refine code_region ?_
      refine op_v (v_move rfl) rfl ?_
      refine op_v (v_cmpfA rfl rfl rfl) rfl ?_
      refine op_v (v_assign rfl) rfl ?_
      refine ops_nil ?_
      refine post_next ?_
      refine code_ret ?_
      refine post_ret (rs := [.tmp 2]) rfl (List.Perm.refl _) (.cons (.tmp rfl) .nil) (List.nil_sublist _) ?_
      exact ⟨⟨false, rfl, fun h => by cases h⟩, rfl⟩
  · refine op_v (v_cmpfA rfl rfl rfl) rfl ?_
    refine op_v (v_move rfl) rfl ?_
    refine op_skip rfl rfl (by simp [undef]) rfl ?_
    refine op_skip rfl rfl (by simp [undef]) rfl ?_
    refine op_v (v_pickf rfl rfl) rfl ?_
    refine ops_nil ?_
    refine post_next ?_
    refine code_cond_f rfl ?_
    refine code_exit ?_
    refine post_exit_then ?_
    refine post_exit_then ?_
    refine post_exit ?_
    refine post_next ?_
    refine code_seq ?_
    refine code_region ?_
    refine op_v (v_move rfl) rfl ?_
    by_cases h33 : n ≤ 500
    · refine op_v (v_cmptA rfl rfl rfl) rfl ?_
      refine op_v (v_assign rfl) rfl ?_
      refine ops_nil ?_
      refine post_next ?_
      refine code_ret ?_
      refine post_ret (rs := [.tmp 2]) rfl (List.Perm.refl _) (.cons (.tmp rfl) .nil) (List.nil_sublist _) ?_
      exact ⟨⟨true, rfl, fun _ => by have := hp h33; rw [List.take_of_length_le (by omega)] at this; omega⟩, rfl⟩
    · refine op_v (v_cmpfA rfl rfl rfl) rfl ?_
      refine op_v (v_assign rfl) rfl ?_
      refine ops_nil ?_
      refine post_next ?_
      refine code_ret ?_
      refine post_ret (rs := [.tmp 2]) rfl (List.Perm.refl _) (.cons (.tmp rfl) .nil) (List.nil_sublist _) ?_
      exact ⟨⟨false, rfl, fun h => by cases h⟩, rfl⟩
def FewC (c : List Li) : Prop := c.length ≤ 40 ∧ sizeL (sidesL c) ≤ 500
theorem Few10_does {I : Imm} {v : Value} {c : List Li} (hv : RepC I v c) :
    Does Try.prog 28 [v] I [] (fun v I' δ' => (∃ b, v = .bool b ∧ (b = true → FewC c)) ∧ δ' = []) := by
  obtain ⟨ad, c0, hvs⟩ : ∃ ad c0, v = .slice ad c.length c0 := by obtain ⟨ad, c0, _, h, _⟩ := hv; exact ⟨ad, c0, h⟩
  subst hvs
  have hsm := hv.small
  refine Does.intro Try.func28 rfl Try.ntmps28 rfl fun w0 => ?_
  refine code_seq ?_
  refine code_region ?_
  refine op_v (v_assign rfl) rfl ?_
  refine ops_nil ?_
  refine post_next ?_
  refine code_seq ?_
  refine code_region ?_
  refine op_v (v_move rfl) rfl ?_
  refine op_v (v_len Try.underlying26 rfl) rfl ?_
  by_cases h5 : c.length ≤ 40
  · refine op_v (v_cmptA rfl rfl rfl) rfl ?_
    refine op_v (v_move rfl) rfl ?_
    refine op_want rfl rfl ?_
    refine op_v (v_move rfl) rfl ?_
    refine op_want rfl rfl ?_
    refine op_call pl39 rfl rfl ((Terms_does (hv.mono Imm.leA))) Parts.none ?_
    rintro v8 I8 _ hI8 ⟨hs8, rfl⟩
    refine op_want rfl rfl ?_
    refine op_call pl73 rfl rfl ((Few5_does hs8)) Parts.none ?_
    rintro v9 I9 _ hI9 ⟨⟨b9, rfl, hb9⟩, rfl⟩
    refine op_v (v_pickt rfl rfl) rfl ?_
    refine op_v (v_assign rfl) rfl ?_
    refine ops_nil ?_
    refine post_next ?_
    refine code_ret ?_
    refine post_ret (rs := [.tmp 2]) rfl (List.Perm.refl _) (.cons (.tmp rfl) .nil) (List.nil_sublist _) ?_
    exact ⟨⟨b9, rfl, fun h => ⟨h5, hb9 h⟩⟩, rfl⟩
  · refine op_v (v_cmpfA rfl rfl rfl) rfl ?_
    refine op_v (v_move rfl) rfl ?_
    refine op_skip rfl rfl (by simp [undef]) rfl ?_
    refine op_skip rfl rfl (by simp [undef]) rfl ?_
    refine op_skip rfl rfl (by simp [undef]) rfl ?_
    refine op_v (v_pickf rfl rfl) rfl ?_
    refine op_v (v_assign rfl) rfl ?_
    refine ops_nil ?_
    refine post_next ?_
    refine code_ret ?_
    refine post_ret (rs := [.tmp 2]) rfl (List.Perm.refl _) (.cons (.tmp rfl) .nil) (List.nil_sublist _) ?_
    exact ⟨⟨false, rfl, fun h => by cases h⟩, rfl⟩
theorem FewC.sides {c : List Li} (h : FewC c) : ∀ x ∈ c, x.l.size ≤ 500 ∧ x.r.size ≤ 500 := fun x hx =>
  ⟨sizeL_getL h.2 _ (List.mem_flatMap.2 ⟨x, hx, by simp⟩), sizeL_getL h.2 _ (List.mem_flatMap.2 ⟨x, hx, by simp⟩)⟩
end Go.Proofs.Ytdbadicpbmndbaa
/- Walks: a matcher: can all literals be matched. -/
set_option linter.unusedVariables false
set_option linter.unusedSimpArgs false
/- short -/
namespace Go.Proofs.Ytdbadicpbmndbaa
open Go Lg

def SmM (c : List Li) : Prop := ∀ x ∈ c, x.l.size ≤ 1000000 ∧ x.r.size ≤ 1000000
abbrev mtB (mb g : Nat) (da : Option Addr) (dc n : Nat) : Ent := .box mb 84 [.slice da n dc, .slice (some ⟨g, 0, none⟩) n n]
abbrev mtR (g n : Nat) (us : List Bool) : Ent := .row (.slice (some ⟨g, 0, none⟩) n n) 4 1 n (us.map Value.bool)
theorem all1_does {I : Imm} {b b3 b4 mb g : Nat} {xs : Mp} {da : Option Addr} {dc : Nat} {bs : List Bi} {ca : Option Addr} {cc : Nat} {a : Li} {r d : List Li} {us : List Bool} (hc : RepC I (.slice ca (a :: r).length cc) (a :: r))
    (hall : ∀ v, RepC I v r → Does Try.prog 56 [.pointer (some ⟨mb, 0, none⟩), v, .map (some b)] I [.map b xs, mtB mb g da dc d.length, mtR g d.length us] (fun v I' δ' => (∃ q, v = .bool q ∧ (q = true ↔ SubB bs d us r)) ∧ δ' = [.map b xs, mtB mb g da dc d.length, mtR g d.length us])) :
    Does Try.prog 108 [.map (some b), .pointer (some ⟨b3, 0, none⟩), .pointer (some ⟨b4, 0, none⟩)] I [.map b xs, .box b4 26 [.slice ca (a :: r).length cc], .box b3 81 [.pointer (some ⟨mb, 0, none⟩)], mtB mb g da dc d.length, mtR g d.length us] (fun v I' δ' => (∃ q, v = .bool q ∧ (q = true ↔ SubB bs d us r)) ∧ δ' = [.map b xs, .box b4 26 [.slice ca (a :: r).length cc], .box b3 81 [.pointer (some ⟨mb, 0, none⟩)], mtB mb g da dc d.length, mtR g d.length us]) := by
  obtain ⟨_, _, xc, hq, hcc, hcb, hcells, hrow⟩ := id hc
  cases hq
  have hm1 : 1 ≤ (a :: r).length := by simp
  have hr1 : RepC I (.slice (cutAt ca cc 1 5) ((a :: r).length - 1) (cc - 1)) r := RepE.dropR (k := 1) hcc hcb hcells hrow (by simp)
  refine Does.intro Try.func108 rfl Try.ntmps108 rfl fun w0 => ?_
  refine code_seq ?_
  refine code_region ?_
  refine op_v (v_assign rfl) rfl ?_
  refine ops_nil ?_
  refine post_next ?_
  refine code_seq ?_
  refine code_draw (.fl 0 (.fl 1 (.fl 2 (.fl 3 (.ef 4 (.ef 5 .done)))))) (fun _ => _) mixed (by kernel_rfl) (by kernel_rfl) (fun _ => (List.Sublist.refl _)) ?_
  refine e_fl rfl rfl (fun hs_ => PF.mk rfl (v_loadA ty81 rfl rfl) hs_) ?_
  refine e_fl rfl rfl (fun hs_ => PF.mk rfl (v_loadA ty26 rfl rfl) hs_) ?_
  refine e_fl rfl rfl (fun hs_ => PF.mk rfl (v_sliceFrom (m := 1) Try.underlying26 sz49 rfl rfl hm1 hcc) hs_) ?_
  refine e_fl rfl rfl (fun hs_ => PF.mk rfl (v_move rfl) hs_) ?_
  refine e_eff rfl (by intro cs b hc; cases hc) (by intro c hc; cases hc) ?_
  refine op_call pl56 rfl rfl ((hall _ hr1)) ((List.Perm.cons _ (List.perm_append_comm (l₁ := [_, _])))) ?_
  rintro v9 I9 _ hI9 ⟨⟨q9, rfl, hq9⟩, rfl⟩
  refine OpsJ.view (View.perm (List.Perm.cons _ (List.perm_append_comm (l₂ := [_, _])))) ?_
  refine ops_nil ?_
  refine e_next rfl side_allA ?_
  refine e_eff rfl (by intro cs b hc; cases hc) (by intro c hc; cases hc) ?_
  refine op_v (v_assign rfl) rfl ?_
  refine ops_nil ?_
  refine e_next rfl (side_nil (by kernel_rfl)) ?_
  refine e_done ?_
  refine post_next ?_
  refine code_ret ?_
  refine post_ret (rs := [.tmp 4]) rfl (List.Perm.refl _) (.cons (.tmp rfl) .nil) (List.Sublist.refl _) ?_
  exact ⟨⟨q9, rfl, hq9⟩, rfl⟩
theorem set_back {us : List Bool} {k : Nat} (h : us[k]? = some false) : (us.set k true).set k false = us := by
  rw [List.set_set]
  obtain ⟨hk, e⟩ := List.getElem?_eq_some_iff.1 h
  conv => rhs; rw [← List.set_getElem_self hk]
  rw [e]
theorem all_does {d : List Li} {da : Option Addr} {dc mb g : Nat} (hsd : SmM d) : ∀ (c : List Li), SmM c → ∀ (us : List Bool) (I : Imm) (b : Nat) (xs : Mp) (bs : List Bi) (vc : Value), us.length = d.length → RepC I (.slice da d.length dc) d → RepC I vc c → MB I xs bs → SmB bs →
    Does Try.prog 56 [.pointer (some ⟨mb, 0, none⟩), vc, .map (some b)] I [.map b xs, mtB mb g da dc d.length, mtR g d.length us] (fun v I' δ' => (∃ q, v = .bool q ∧ (q = true ↔ SubB bs d us c)) ∧ δ' = [.map b xs, mtB mb g da dc d.length, mtR g d.length us]) := by
  intro c
  induction c with
  | nil =>
    intro hsc us I b xs bs vc hul hd hc hM hsb
    obtain ⟨ca, cc, hsh⟩ := RepE.shape hc
    subst hsh
    refine Does.intro Try.func56 rfl Try.ntmps56 rfl fun w0 => ?_
    refine code_seq ?_
    refine code_region ?_
    refine o_box rfl rfl rfl (fun b3 => ?_)
    refine o_box rfl rfl rfl (fun b4 => ?_)
    refine op_v (v_assign rfl) rfl ?_
    refine ops_nil ?_
    refine post_next ?_
    refine code_seq ?_
    refine code_seq ?_
    refine code_region ?_
    refine op_v (v_loadA ty26 rfl rfl) rfl ?_
    refine op_v (v_len Try.underlying26 rfl) rfl ?_
    refine op_v (v_cmpt rfl rfl rfl (by simp)) rfl ?_
    refine ops_nil ?_
    refine post_next ?_
    refine code_cond_t rfl ?_
    refine code_seq ?_
    refine code_region ?_
    refine op_v (v_assign rfl) rfl ?_
    refine ops_nil ?_
    refine post_next ?_
    refine code_ret ?_
    refine post_ret_then ?_
    refine post_ret (rs := [.tmp 6]) rfl (List.Perm.refl _) (.cons (.tmp rfl) .nil) (List.Sublist.cons _ (List.Sublist.cons _ (List.Sublist.refl _))) ?_
    exact ⟨⟨true, rfl, by simp only [true_iff]; exact SubB_nil⟩, rfl⟩
  | cons a r ih =>
    intro hsc us I b xs bs vc hul hd hc hM hsb
    have hsa := hsc a (List.mem_cons_self ..)
    have hsr : SmM r := fun x hx => hsc x (List.mem_cons_of_mem _ hx)
    obtain ⟨ca, cc, xc, hsh, hcc, hcb, hcellc, hrowc⟩ := id hc
    subst hsh
    obtain ⟨_, _, xd, hq, hdc, hdb, hcelld, hrowd⟩ := id hd
    cases hq
    have hcl : (a :: r).length = r.length + 1 := rfl
    obtain ⟨va, ⟨pa, pc, qa, qc, rfl, hpl, hpr⟩, hatc⟩ := hrowc.cellsAt hcellc (i := 0) (by simp)
    rw [List.getElem_cons_zero] at hpl hpr hatc
    have hs0 := hatc.isSome
    have hgs : (some (⟨g, 0, none⟩ : Addr)).isSome = true := rfl
    refine Does.intro Try.func56 rfl Try.ntmps56 rfl fun w0 => ?_
    refine code_seq ?_
    refine code_region ?_
    refine o_box rfl rfl rfl (fun b3 => ?_)
    refine o_box rfl rfl rfl (fun b4 => ?_)
    refine op_v (v_assign rfl) rfl ?_
    refine ops_nil ?_
    refine post_next ?_
    refine code_seq ?_
    refine code_seq ?_
    refine code_region ?_
    refine op_v (v_loadA ty26 rfl rfl) rfl ?_
    refine op_v (v_len Try.underlying26 rfl) rfl ?_
    refine op_v (v_cmpf rfl rfl rfl (by simp; omega)) rfl ?_
    refine ops_nil ?_
    refine post_next ?_
    refine code_cond_f rfl ?_
    refine code_skip ?_
    refine post_next ?_
    refine code_seq ?_
    refine code_seq ?_
    refine code_region ?_
    refine op_v (v_loadA ty81 rfl rfl) rfl ?_
    refine op_v (v_nilCheck rfl) rfl ?_
    refine op_v (v_fieldB 0 Try.underlying84 rfl rfl fz26 rfl) rfl ?_
    refine op_v (v_loadA ty26 rfl rfl) rfl ?_
    refine op_v (v_len Try.underlying26 rfl) rfl ?_
    refine op_v (v_move rfl) rfl ?_
    refine ops_nil ?_
    refine post_next ?_
    refine code_block ?_
    refine CodeJ.view (View.perm (List.perm_middle (l₁ := [_, _]))) ?_
    refine code_loop (fun m σ' I' δ' => ∃ k : Nat, m = d.length - k ∧ k ≤ d.length ∧ σ' = [(2, .map (some b)), (3, .pointer (some ⟨b3, 0, none⟩)), (4, .pointer (some ⟨b4, 0, none⟩)), (16, .slice da d.length dc), (17, .int .i64 d.length), (18, .int .i64 k)] ∧ I.le I' ∧ δ' = [.map b xs, .box b4 26 [.slice ca (a :: r).length cc], .box b3 81 [.pointer (some ⟨mb, 0, none⟩)], mtB mb g da dc d.length, mtR g d.length us] ∧ ∀ j, j < k → ¬ SubK bs d us a r j) d.length [(2, .map (some b)), (3, .pointer (some ⟨b3, 0, none⟩)), (4, .pointer (some ⟨b4, 0, none⟩)), (16, .slice da d.length dc), (17, .int .i64 d.length), (18, .int .i64 (0 : Nat))] ⟨0, rfl, Nat.zero_le _, rfl, Imm.le_refl _, rfl, fun j h => by omega⟩ ⟨rfl, rfl, rfl, rfl, rfl, rfl, trivial⟩ ?_
    rintro m _ I0 _ ⟨k, rfl, hk, rfl, hI0, rfl, hno⟩
    refine code_seq ?_
    refine code_region ?_
    refine op_v (v_cmp rfl rfl rfl) rfl ?_
    refine ops_nil ?_
    refine post_next ?_
    refine code_seq ?_
    refine code_cond rfl (fun hc1 => ?_) (fun hc1 => ?_)
    · have hlt : k < d.length := by simpa using hc1
      obtain ⟨vd, ⟨la, lc, ra, rc, rfl, hll, hlr⟩, hatd⟩ := hrowd.cellsAt hcelld hlt
      have hs1 := hatd.isSome
      have hsk := hsd _ (List.getElem_mem hlt)
      have hku : k < us.length := by omega
      have hnext : ¬ SubK bs d us a r k → ∀ j, j < k + 1 → ¬ SubK bs d us a r j := fun h j hj => by
        rcases Nat.lt_or_ge j k with q | q
        · exact hno j q
        · have e : j = k := by omega
          subst e; exact h
      refine code_skip ?_
      refine post_next ?_
      refine code_seq ?_
      refine code_block ?_
      refine code_seq ?_
      refine code_region ?_
      refine op_v (v_move rfl) rfl ?_
      refine op_v (v_indexA Try.underlying26 sz49 rfl rfl) rfl ?_
      refine op_v (v_loadI0 ty49 (hatd.mono hI0) rfl rfl rfl) rfl ?_
      refine o_alloc z49 rfl rfl (fun b8 => ?_)
      refine op_v (v_assign rfl) rfl ?_
      refine o_store ty49 rfl rfl rfl rfl rfl (by repeat (first | exact Swap.here | apply Swap.there)) rfl ?_
      refine ops_nil ?_
      refine post_next ?_
      refine code_seq ?_
      refine code_seq ?_
      refine code_draw (.fl 0 (.fl 1 (.fl 2 (.fl 3 (.fl 4 (.fl 5 (.fl 6 (.fl 7 (.fl 8 (.fl 9 (.fl 10 (.fl 11 (.fl 12 (.fl 13 (.fl 14 (.fl 15 .done)))))))))))))))) (fun _ => _) mixed (by kernel_rfl) (by kernel_rfl) (fun _ => (List.Sublist.refl _)) ?_
      refine e_fl rfl rfl (fun hs_ => PF.mk rfl (v_loadA ty81 rfl rfl) hs_) ?_
      refine e_fl rfl rfl (fun hs_ => PF.mk rfl (v_nilCheck rfl) hs_) ?_
      refine e_fl rfl rfl (fun hs_ => PF.mk rfl (v_fieldB 1 Try.underlying84 rfl rfl fz82 rfl) hs_) ?_
      refine e_fl rfl rfl (fun hs_ => PF.mk rfl (v_loadA ty82 rfl rfl) hs_) ?_
      refine e_fl rfl rfl (fun hs_ => PF.mk rfl (v_move rfl) hs_) ?_
      refine e_fl rfl rfl (fun hs_ => PF.mk rfl (v_indexA Try.underlying82 sz4 rfl rfl) hs_) ?_
      refine e_fl rfl rfl (fun hs_ => PF.mk rfl (v_loadRow ty4 rfl (by repeat (first | exact Has.here | apply Has.there)) rfl (ld_at (cs := us.map Value.bool) (o := k * 1) (x := .bool us[k]) (by simp [hku]))) hs_) ?_
      by_cases h30 : us[k] = true
      · rw [h30]
        have hbad : ¬ SubK bs d us a r k := fun ⟨_, h2, _⟩ => by rw [List.getElem?_eq_getElem hku, h30] at h2; cases h2
        refine e_fl rfl rfl (fun hs_ => PF.mk rfl (v_move rfl) hs_) ?_
        refine e_fl rfl rfl (fun hs_ => PF.mks rfl (by intro c hc; cases hc) rfl rfl (by simp [undef]) hs_) ?_
        refine e_fl rfl rfl (fun hs_ => PF.mks rfl (by intro c hc; cases hc) rfl rfl (by simp [undef]) hs_) ?_
        refine e_fl rfl rfl (fun hs_ => PF.mks rfl (by intro c hc; cases hc) rfl rfl (by simp [undef]) hs_) ?_
        refine e_fl rfl rfl (fun hs_ => PF.mks rfl (by intro c hc; cases hc) rfl rfl (by simp [undef]) hs_) ?_
        refine e_fl rfl rfl (fun hs_ => PF.mks rfl (by intro c hc; cases hc) rfl rfl (by simp [undef]) hs_) ?_
        refine e_fl rfl rfl (fun hs_ => PF.mks rfl (by intro c hc; cases hc) rfl rfl (by simp [undef]) hs_) ?_
        refine e_fl rfl rfl (fun hs_ => PF.mks rfl (by intro c hc; cases hc) rfl rfl (by simp [undef]) hs_) ?_
        refine e_fl rfl rfl (fun hs_ => PF.mk rfl (v_pickt rfl rfl) hs_) ?_
        refine e_done ?_
        refine post_next ?_
        refine code_cond_t rfl ?_
        refine code_exit ?_
        refine post_exit_then ?_
        refine post_exit ?_
        refine post_next ?_
        refine code_region ?_
        refine op_v (v_addb rfl rfl rfl (by omega)) rfl ?_
        refine op_v (v_move rfl) rfl ?_
        refine ops_nil ?_
        refine PostJ.view (View.drop Del.here) ?_
        refine post_again (d.length - (k + 1)) [(2, .map (some b)), (3, .pointer (some ⟨b3, 0, none⟩)), (4, .pointer (some ⟨b4, 0, none⟩)), (16, .slice da d.length dc), (17, .int .i64 d.length), (18, .int .i64 (k + 1 : Nat))] (by omega) ⟨k + 1, rfl, hlt, rfl, Imm.leA, rfl, hnext hbad⟩ ⟨rfl, rfl, rfl, rfl, rfl, rfl, trivial⟩
      · have h30' : us[k] = false := by simpa using h30
        rw [h30']
        have huk : us[k]? = some false := by rw [List.getElem?_eq_getElem hku, h30']
        refine e_fl rfl rfl (fun hs_ => PF.mk rfl (v_move rfl) hs_) ?_
        refine e_fl rfl rfl (fun hs_ => PF.mkg rfl rfl rfl (v_fieldB 0 Try.underlying49 rfl rfl fz4 rfl) hs_) ?_
        refine e_fl rfl rfl (fun hs_ => PF.mkg rfl rfl rfl (v_loadA ty4 rfl rfl) hs_) ?_
        refine e_fl rfl rfl (fun hs_ => PF.mkg rfl rfl rfl (v_loadA ty26 rfl rfl) hs_) ?_
        refine e_fl rfl rfl (fun hs_ => PF.mkg rfl rfl rfl (v_indexIA Try.underlying26 sz49 rfl rfl) hs_) ?_
        refine e_fl rfl rfl (fun hs_ => PF.mkg rfl rfl rfl (v_fieldI 0 Try.underlying49 rfl rfl fz4 rfl (by assumption)) hs_) ?_
        refine e_fl rfl rfl (fun hs_ => PF.mkg rfl rfl rfl (v_loadI0 ty4 (hatc.mono hI0) rfl rfl rfl) hs_) ?_
        by_cases h37 : d[k].neg = a.neg
        · refine e_fl rfl rfl (fun hs_ => PF.mkg rfl rfl rfl (v_eqb (z := false) Try.underlying4 rfl rfl (by rw [h37]; simp [cmpB])) hs_) ?_
          refine e_fl rfl rfl (fun hs_ => PF.mk rfl (v_pickf rfl rfl) hs_) ?_
          refine e_done ?_
          refine post_next ?_
          refine code_cond_f rfl ?_
          refine code_skip ?_
          refine post_next ?_
          refine code_seq ?_
          refine code_region ?_
          refine op_v (v_loadA ty81 rfl rfl) rfl ?_
          refine op_v (v_nilCheck rfl) rfl ?_
          refine op_v (v_fieldB 1 Try.underlying84 rfl rfl fz82 rfl) rfl ?_
          refine op_v (v_loadA ty82 rfl rfl) rfl ?_
          refine op_v (v_move rfl) rfl ?_
          refine op_v (v_indexA Try.underlying82 sz4 rfl rfl) rfl ?_
          refine o_storeRow (xs' := (us.set k true).map Value.bool) ty4 rfl rfl rfl rfl rfl rfl (by simp [cellsL, hul]) (by repeat (first | exact Swap.here | apply Swap.there)) (by rw [List.map_set, Nat.mul_one]; exact stL_one (x := .bool us[k]) (by rw [List.getElem?_map, List.getElem?_eq_getElem hku]; rfl)) ?_
          refine ops_nil ?_
          refine post_next ?_
          refine code_seq ?_
          refine code_draw (.fl 0 (.fl 1 (.fl 2 (.fl 3 (.fl 4 (.fl 5 (.ef 6 (.ef 7 .done)))))))) (fun _ => _) mixed (by kernel_rfl) (by kernel_rfl) (fun _ => (List.Sublist.refl _)) ?_
          refine e_fl rfl rfl (fun hs_ => PF.mk rfl (v_move rfl) hs_) ?_
          refine e_fl rfl rfl (fun hs_ => PF.mk rfl (v_loadA ty26 rfl rfl) hs_) ?_
          refine e_fl rfl rfl (fun hs_ => PF.mk rfl (v_indexIA Try.underlying26 sz49 rfl rfl) hs_) ?_
          refine e_fl rfl rfl (fun hs_ => PF.mk rfl (v_loadI0 ty49 (hatc.mono hI0) rfl rfl rfl) hs_) ?_
          refine e_fl rfl rfl (fun hs_ => PF.mk rfl (v_loadA ty49 rfl rfl) hs_) ?_
          refine e_fl rfl rfl (fun hs_ => PF.mk rfl (v_makeFunc rfl rfl) hs_) ?_
          refine e_eff rfl (by intro cs b hc; cases hc) (by intro c hc; cases hc) ?_
          refine op_call pl59 rfl rfl ((ways_does (Q := fun θ => SubS θ d (us.set k true) r) (hM.mono Imm.leA) hsb ⟨pa, pc, qa, qc, rfl, hpl.mono Imm.leA, hpr.mono Imm.leA⟩ ⟨la, lc, ra, rc, rfl, hll.mono Imm.leA, hlr.mono Imm.leA⟩ hsa.1 hsa.2 hsk.1 hsk.2 (fun J b' xs' bs' hJ hM' hsb' => FDoes.ofFunc (args := [_]) (caps := [_, _]) pl108 (all1_does (hc.mono (Imm.le_trans hI0 hJ)) (fun v hv => ih hsr (us.set k true) J b' xs' bs' v (by simp [hul]) (hd.mono (Imm.le_trans hI0 hJ)) hv hM' hsb'))))) (List.perm_append_comm (l₁ := [_])) ?_
          rintro v51 I51 _ hI51 ⟨⟨q51, rfl, hq51⟩, rfl⟩
          have hqk : q51 = true ↔ SubK bs d us a r k := by
            rw [hq51]
            constructor
            · rintro ⟨θ, e1, e2, e3⟩; exact ⟨hlt, huk, h37, θ, e1, e2, e3⟩
            · rintro ⟨_, _, _, θ, e1, e2, e3⟩; exact ⟨θ, e1, e2, e3⟩
          refine ops_nil ?_
          refine e_next rfl side_allA ?_
          refine e_eff rfl (by intro cs b hc; cases hc) (by intro c hc; cases hc) ?_
          refine op_v (v_assign rfl) rfl ?_
          refine ops_nil ?_
          refine e_next rfl (side_nil (by kernel_rfl)) ?_
          refine e_done ?_
          refine post_next ?_
          refine code_seq ?_
          refine code_region ?_
          refine op_v (v_loadA ty81 rfl rfl) rfl ?_
          refine op_v (v_nilCheck rfl) rfl ?_
          refine op_v (v_fieldB 1 Try.underlying84 rfl rfl fz82 rfl) rfl ?_
          refine op_v (v_loadA ty82 rfl rfl) rfl ?_
          refine op_v (v_move rfl) rfl ?_
          refine op_v (v_indexA Try.underlying82 sz4 rfl rfl) rfl ?_
          refine o_storeRow (xs' := us.map Value.bool) ty4 rfl rfl rfl rfl rfl rfl (by simp [cellsL, hul]) (by repeat (first | exact Swap.here | apply Swap.there)) (by rw [Nat.mul_one]; have e := congrArg (List.map Value.bool) (set_back huk); rw [List.map_set] at e; rw [← e]; exact stL_one (x := .bool true) (by rw [List.getElem?_map, List.getElem?_set_self hku]; rfl)) ?_
          refine ops_nil ?_
          refine post_next ?_
          refine code_seq ?_
          refine code_region ?_
          refine op_v (v_move rfl) rfl ?_
          refine ops_nil ?_
          refine post_next ?_
          refine code_cond rfl (fun hc3 => ?_) (fun hc3 => ?_)
          · have hq : q51 = true := hc3
            refine code_seq ?_
            refine code_region ?_
            refine op_v (v_assign rfl) rfl ?_
            refine ops_nil ?_
            refine post_next ?_
            refine code_ret ?_
            refine post_ret_block ?_
            refine post_ret_then ?_
            refine post_ret_then ?_
            refine post_ret_block ?_
            refine post_ret_then ?_
            refine post_ret (rs := [.tmp 6]) rfl (List.Perm.refl _) (.cons (.tmp rfl) .nil) (List.Sublist.cons_cons _ (List.Sublist.cons _ (List.Sublist.cons _ (List.Sublist.cons_cons _ (List.Sublist.cons_cons _ (List.nil_sublist _)))))) ?_
            exact ⟨⟨true, rfl, by simp only [true_iff]; exact SubB_cons.2 ⟨k, hqk.1 hq⟩⟩, rfl⟩
          · have hq : ¬ q51 = true := by rw [hc3]; simp
            refine code_skip ?_
            refine post_out ?_
            refine post_next ?_
            refine code_region ?_
            refine op_v (v_addb rfl rfl rfl (by omega)) rfl ?_
            refine op_v (v_move rfl) rfl ?_
            refine ops_nil ?_
            refine PostJ.view (View.sub (List.Sublist.cons_cons _ (List.Sublist.cons_cons _ (List.Sublist.cons_cons _ (List.Sublist.cons_cons _ (List.Sublist.cons_cons _ (List.nil_sublist _))))))) ?_
            refine post_again (d.length - (k + 1)) [(2, .map (some b)), (3, .pointer (some ⟨b3, 0, none⟩)), (4, .pointer (some ⟨b4, 0, none⟩)), (16, .slice da d.length dc), (17, .int .i64 d.length), (18, .int .i64 (k + 1 : Nat))] (by omega) ⟨k + 1, rfl, hlt, rfl, Imm.leA, rfl, hnext (fun h => hq (hqk.2 h))⟩ ⟨rfl, rfl, rfl, rfl, rfl, rfl, trivial⟩
        · have hbad : ¬ SubK bs d us a r k := fun ⟨_, _, h3, _⟩ => h37 h3
          refine e_fl rfl rfl (fun hs_ => PF.mkg rfl rfl rfl (v_eqb (z := true) Try.underlying4 rfl rfl (by simp [cmpB, h37])) hs_) ?_
          refine e_fl rfl rfl (fun hs_ => PF.mk rfl (v_pickf rfl rfl) hs_) ?_
          refine e_done ?_
          refine post_next ?_
          refine code_cond_t rfl ?_
          refine code_exit ?_
          refine post_exit_then ?_
          refine post_exit ?_
          refine post_next ?_
          refine code_region ?_
          refine op_v (v_addb rfl rfl rfl (by omega)) rfl ?_
          refine op_v (v_move rfl) rfl ?_
          refine ops_nil ?_
          refine PostJ.view (View.drop Del.here) ?_
          refine post_again (d.length - (k + 1)) [(2, .map (some b)), (3, .pointer (some ⟨b3, 0, none⟩)), (4, .pointer (some ⟨b4, 0, none⟩)), (16, .slice da d.length dc), (17, .int .i64 d.length), (18, .int .i64 (k + 1 : Nat))] (by omega) ⟨k + 1, rfl, hlt, rfl, Imm.leA, rfl, hnext hbad⟩ ⟨rfl, rfl, rfl, rfl, rfl, rfl, trivial⟩
    · have hge : k = d.length := by simp at hc1; omega
      refine code_exit ?_
      refine post_exit_then ?_
      refine post_exit_then ?_
      refine post_exit ?_
      refine post_next ?_
      refine code_seq ?_
      refine code_region ?_
      refine op_v (v_assign rfl) rfl ?_
      refine ops_nil ?_
      refine post_next ?_
      refine code_ret ?_
      refine post_ret (rs := [.tmp 6]) rfl (List.Perm.refl _) (.cons (.tmp rfl) .nil) (List.Sublist.cons_cons _ (List.Sublist.cons _ (List.Sublist.cons _ (List.Sublist.refl _)))) ?_
      exact ⟨⟨false, rfl, by simp only [Bool.false_eq_true, false_iff]; rw [SubB_cons]; rintro ⟨j, hj⟩; exact hno j (by obtain ⟨h, _⟩ := hj; omega) hj⟩, rfl⟩
end Go.Proofs.Ytdbadicpbmndbaa
/- Walks: a term's parts, how often heads stand in it. -/
set_option linter.unusedVariables false
set_option linter.unusedSimpArgs false
/- short -/
namespace Go.Proofs.Ytdbadicpbmndbaa
open Go Lg

mutual
def visT : Bool → T → List (Bool × T)
  | b, .mk h us => (b, .mk h us) :: visL us
def visL : List T → List (Bool × T)
  | [] => []
  | t :: r => visT false t ++ visL r
end
theorem visT_eq (b : Bool) (t : T) : visT b t = (b, t) :: visL t.args := by cases t; rfl
theorem visL_app : ∀ a b : List T, visL (a ++ b) = visL a ++ visL b
  | [], b => rfl
  | t :: r, b => by simp [visL, visL_app r b]
/-! ### heads -/
theorem snoc_ind {α : Type} {P : List α → Prop} (h0 : P []) (h1 : ∀ l x, P l → P (l ++ [x])) (l : List α) : P l := by
  have : ∀ m : List α, P m.reverse := fun m => by
    induction m with
    | nil => exact h0
    | cons x m ih => rw [List.reverse_cons]; exact h1 _ _ ih
  simpa using this l.reverse
def hds (t : T) : List Int := (visT true t).map (·.2.head)
end Go.Proofs.Ytdbadicpbmndbaa
/- Walks: whether a term is one of a signature. -/
set_option linter.unusedVariables false
set_option linter.unusedSimpArgs false
/- short -/
namespace Go.Proofs.Ytdbadicpbmndbaa
open Go Lg

def arG (gs : List Sy) (h : Int) : Int := (gs[h.toNat]?.map Sy.ar).getD 0
def trG (gs : List Sy) (h : Int) : Bool := (gs[h.toNat]?.map Sy.tr).getD false
def unkB (gs : List Sy) (x : Bool × T) : Bool := decide (0 ≤ x.2.head) && (decide ((gs.length : Int) ≤ x.2.head) || decide ((x.2.args.length : Int) ≠ arG gs x.2.head))
def mixB (gs : List Sy) (x : Bool × T) : Bool := decide (0 ≤ x.2.head) && (!(unkB gs x) && (trG gs x.2.head && !x.1))
theorem arG_at {gs : List Sy} {h : Int} (h0 : 0 ≤ h) (hl : h < gs.length) : arG gs h = (gs[h.toNat]'(by omega)).ar := by
  have : h.toNat < gs.length := by omega
  simp [arG, this]
theorem trG_at {gs : List Sy} {h : Int} (h0 : 0 ≤ h) (hl : h < gs.length) : trG gs h = (gs[h.toNat]'(by omega)).tr := by
  have : h.toNat < gs.length := by omega
  simp [trG, this]

def unkG (gs : List Sy) (t : T) : Bool := (visT true t).any (unkB gs)
def mixG (gs : List Sy) (t : T) : Bool := (visT true t).any (mixB gs)
def termG (gs : List Sy) (t : T) : Int := if chkG gs ≠ 0 then chkG gs else if chkT t ≠ 0 then chkT t else if unkG gs t = true then 1 else if mixG gs t = true then 10 else 0
end Go.Proofs.Ytdbadicpbmndbaa
/- Walks: how heavy a term is, how often its variables stand in it. -/
set_option linter.unusedVariables false
set_option linter.unusedSimpArgs false
/- short -/
namespace Go.Proofs.Ytdbadicpbmndbaa
open Go Lg

def wtG (gs : List Sy) (h : Int) : Int := (gs[h.toNat]?.map Sy.wt).getD 0
def wB (gs : List Sy) (h : Int) : Int := if h < 0 then 1 else wtG gs h
def wgtG (gs : List Sy) (t : T) : Int := ((hds t).map (wB gs)).sum
theorem wtG_at {gs : List Sy} {h : Int} (h0 : 0 ≤ h) (hl : h < gs.length) : wtG gs h = (gs[h.toNat]'(by omega)).wt := by
  have : h.toNat < gs.length := by omega
  simp [wtG, this]
structure OkG (gs : List Sy) (t : T) : Prop where
  right : rightG gs = true
  chk : chkT t = 0
  unk : unkG gs t = false
  mix : mixG gs t = false
theorem termG_ok {gs : List Sy} {t : T} : termG gs t = 0 ↔ OkG gs t := by
  unfold termG
  constructor
  · intro h
    split at h
    · rename_i h1; exact absurd h h1
    · rename_i h1
      split at h
      · rename_i h2; exact absurd h h2
      · rename_i h2
        split at h
        · cases h
        · rename_i h3
          split at h
          · cases h
          · rename_i h4
            refine ⟨?_, by simpa using h2, by simpa using h3, by simpa using h4⟩
            unfold chkG at h1
            by_cases hr : rightG gs = true
            · exact hr
            · rw [if_neg hr] at h1; simp at h1
  · rintro ⟨h1, h2, h3, h4⟩
    have : chkG gs = 0 := by simp [chkG, h1]
    simp [this, h2, h3, h4]
theorem chkT_size {t : T} (h : chkT t = 0) : t.size ≤ 400 := by
  unfold chkT at h
  split at h
  · cases h
  · omega
theorem OkG.head {gs : List Sy} {t : T} (h : OkG gs t) : ∀ k ∈ hds t, k < 0 ∨ (0 ≤ k ∧ k < gs.length) := by
  intro k hk
  obtain ⟨x, hx, rfl⟩ := List.mem_map.1 hk
  have h1 := h.unk
  unfold unkG at h1
  rw [List.any_eq_false] at h1
  have h2 := h1 x hx
  simp only [unkB, Bool.and_eq_true, decide_eq_true_eq, Bool.or_eq_true, not_and, not_or] at h2
  by_cases h3 : x.2.head < 0
  · exact .inl h3
  · have := (h2 (by omega)).1; exact .inr ⟨by omega, by omega⟩
theorem right_wt {gs : List Sy} (h : rightG gs = true) (i : Nat) (hi : i < gs.length) : 1 ≤ gs[i].wt ∧ gs[i].wt ≤ 1000 := by
  have := rightG_at h i hi
  simp only [badS, Bool.or_eq_false_iff, decide_eq_false_iff_not] at this
  omega
theorem wB_range {gs : List Sy} (h : rightG gs = true) {k : Int} (hk : k < 0 ∨ (0 ≤ k ∧ k < gs.length)) : 1 ≤ wB gs k ∧ wB gs k ≤ 1000 := by
  unfold wB
  rcases hk with hk | ⟨h0, h1⟩
  · rw [if_pos hk]; omega
  · rw [if_neg (by omega), wtG_at h0 h1]; exact right_wt h _ _
end Go.Proofs.Ytdbadicpbmndbaa
/- Walks: how often a term's variables stand in it. -/
set_option linter.unusedVariables false
set_option linter.unusedSimpArgs false
/- short -/
namespace Go.Proofs.Ytdbadicpbmndbaa
open Go Lg

/-- what the numbers are on the way, some entries still to come -/
def CInv (l0 : List Int) (left : Mp) (cs : List Int) : Prop :=
  cs.length ≤ 256 ∧ (∀ v : Nat, v < 256 → cs.getD v 0 = if mget left (-1 - (v : Int)) = none then ((l0.count (-1 - (v : Int)) : Nat) : Int) else 0) ∧ (∀ n, cs.length = n + 1 → cs.getD n 0 ≠ 0)
theorem mget_mid : ∀ {l q : Mp} {k : Int} {u : Value}, ((l ++ (k, u) :: q).map (·.1)).Nodup → ∀ j, mget (l ++ (k, u) :: q) j = if k = j then some u else mget (l ++ q) j
  | [], q, k, u, hn, j => by simp [mget]
  | (k', z) :: l, q, k, u, hn, j => by
    simp only [List.cons_append, List.map_cons, List.nodup_cons] at hn
    have hne : k' ≠ k := fun e => hn.1 (by subst e; simp)
    simp only [List.cons_append, mget, mget_mid hn.2 j]
    by_cases h : k' = j
    · subst h; rw [if_pos rfl, if_neg (fun e => hne e.symm), if_pos rfl]
    · rw [if_neg h, if_neg h]
theorem mget_ne {l q : Mp} {k : Int} {u : Value} {j : Int} (hn : ((l ++ (k, u) :: q).map (·.1)).Nodup) (h : k ≠ j) : mget (l ++ (k, u) :: q) j = mget (l ++ q) j := by rw [mget_mid hn, if_neg h]
theorem mid_none {l q : Mp} {k : Int} {u : Value} (hn : ((l ++ (k, u) :: q).map (·.1)).Nodup) : mget (l ++ q) k = none := by
  rw [mget_none]
  simp only [List.map_append, List.map_cons, List.nodup_append, List.nodup_cons] at hn
  obtain ⟨h1, ⟨h2, h3⟩, h4⟩ := hn
  intro hm
  rw [List.map_append, List.mem_append] at hm
  rcases hm with hm | hm
  · exact h4 k hm k (by simp) rfl
  · exact h2 hm
theorem CInv.skip {l0 : List Int} {l q : Mp} {k : Int} {u : Value} {cs : List Int} (hn : ((l ++ (k, u) :: q).map (·.1)).Nodup) (h : CInv l0 (l ++ (k, u) :: q) cs) (hk : -1 - k < 0 ∨ 255 < -1 - k) : CInv l0 (l ++ q) cs := by
  obtain ⟨h1, h2, h3⟩ := h
  refine ⟨h1, fun v hv => ?_, h3⟩
  rw [h2 v hv, mget_ne hn (by omega)]
theorem getD_ext (cs : List Int) (j v : Nat) : (cs ++ List.replicate j 0).getD v 0 = cs.getD v 0 := by
  simp only [List.getD_eq_getElem?_getD]
  by_cases h : v < cs.length
  · rw [List.getElem?_append_left h]
  · rw [List.getElem?_append_right (by omega), List.getElem?_replicate, List.getElem?_eq_none_iff.2 (by omega)]
    split <;> rfl
theorem CInv.step {l0 : List Int} {l q : Mp} {k : Int} {u : Value} {cs : List Int} {v j : Nat} (hn : ((l ++ (k, u) :: q).map (·.1)).Nodup) (h : CInv l0 (l ++ (k, u) :: q) cs) (hk : k = -1 - (v : Int)) (hv : v < 256) (hc : 0 < l0.count k) (hlen : v < cs.length + j) (hj : j = 0 ∨ cs.length + j = v + 1) :
    CInv l0 (l ++ q) ((cs ++ List.replicate j 0).set v (l0.count k : Nat)) := by
  obtain ⟨h1, h2, h3⟩ := h
  have hl : ((cs ++ List.replicate j (0 : Int)).set v ((l0.count k : Nat) : Int)).length = cs.length + j := by simp
  have hg : ∀ w : Nat, ((cs ++ List.replicate j (0 : Int)).set v ((l0.count k : Nat) : Int)).getD w 0 = if w = v then ((l0.count k : Nat) : Int) else cs.getD w 0 := fun w => by
    by_cases hw : w = v
    · subst hw
      rw [if_pos rfl, List.getD_eq_getElem?_getD, List.getElem?_set_self (by simp; omega)]; rfl
    · rw [if_neg hw, ← getD_ext cs j w, List.getD_eq_getElem?_getD, List.getElem?_set_ne (by omega), ← List.getD_eq_getElem?_getD]
  refine ⟨by rw [hl]; omega, fun w hw => ?_, fun n hn' => ?_⟩
  · rw [hg w]
    by_cases e : w = v
    · subst e
      rw [if_pos rfl, ← hk, mid_none hn, if_pos rfl]
    · rw [if_neg e, h2 w hw, mget_ne hn (by omega)]
  · rw [hl] at hn'
    rw [hg n]
    by_cases e : n = v
    · rw [if_pos e]; omega
    · rw [if_neg e]
      have hj0 : j = 0 := by omega
      exact h3 n (by omega)
theorem CInv.last {l0 : List Int} {cs : List Int} (h : CInv l0 [] cs) : ∀ v : Nat, v < 256 → cs.getD v 0 = ((l0.count (-1 - (v : Int)) : Nat) : Int) := fun v hv => by
  rw [h.2.1 v hv]; simp [mget]
theorem CInv.in {l0 : List Int} {left : Mp} {cs : List Int} (h : CInv l0 left cs) (hb : l0.length ≤ 1000000000) : ∀ x ∈ cs, InR x := by
  intro x hx
  obtain ⟨v, hv, rfl⟩ := List.getElem_of_mem hx
  have h1 := h.1
  have h2 := h.2.1 v (by omega)
  rw [List.getD_eq_getElem?_getD, List.getElem?_eq_getElem hv, Option.getD_some] at h2
  rw [h2]
  have := List.count_le_length (a := -1 - (v : Int)) (l := l0)
  unfold InR
  split <;> omega

end Go.Proofs.Ytdbadicpbmndbaa
/- Walks: the example of the chapter on weights. -/
set_option linter.unusedVariables false
set_option linter.unusedSimpArgs false
/- short -/
namespace Go.Proofs.Ytdbadicpbmndbaa
open Go Lg

def tC : T := .mk 2 [.mk (-1) [], .mk 1 [.mk (-1) []]]
end Go.Proofs.Ytdbadicpbmndbaa
/- Walks: the example of the chapter on weights; the statement on names. -/
set_option linter.unusedVariables false
set_option linter.unusedSimpArgs false
/- short -/
namespace Go.Proofs.Ytdbadicpbmndbaa
open Go Lg

end Go.Proofs.Ytdbadicpbmndbaa
/- Walk: the statement on places under others. -/
set_option linter.unusedVariables false
set_option linter.unusedSimpArgs false
/- short -/
namespace Go.Proofs.Ytdbadicpbmndbaa
open Go Lg

end Go.Proofs.Ytdbadicpbmndbaa
/- Plain facts on places: what is put is there, what is apart stays. No condition. -/
set_option linter.unusedVariables false
set_option linter.unusedSimpArgs false
namespace Go.Proofs.Ytdbadicpbmndbaa
open Go Lg

/-! ### contracts, with their answers by name -/
end Go.Proofs.Ytdbadicpbmndbaa
/- Walks: the statement on how heavy parts are. -/
set_option linter.unusedVariables false
set_option linter.unusedSimpArgs false
/- short -/
namespace Go.Proofs.Ytdbadicpbmndbaa
open Go Lg

def sumV (gs : List Sy) (l : List (Bool × T)) : Int := (l.map fun x => wB gs x.2.head).sum
theorem sumV_app (gs : List Sy) (a b : List (Bool × T)) : sumV gs (a ++ b) = sumV gs a + sumV gs b := by simp [sumV]
theorem wgtG_eq (gs : List Sy) (t : T) : wgtG gs t = wB gs t.head + sumV gs (visL t.args) := by
  unfold wgtG hds sumV
  rw [visT_eq, List.map_cons, List.map_cons, List.sum_cons, List.map_map]
  rfl
theorem sumV_T (gs : List Sy) (b : Bool) (t : T) : sumV gs (visT b t) = wgtG gs t := by
  rw [wgtG_eq, visT_eq]; simp [sumV]
theorem sumV_nonneg {gs : List Sy} (hr : rightG gs = true) : ∀ l : List (Bool × T), (∀ x ∈ l, x.2.head < 0 ∨ (0 ≤ x.2.head ∧ x.2.head < gs.length)) → (l.length : Int) ≤ sumV gs l
  | [], _ => by simp [sumV]
  | x :: r, h => by
    have h1 := wB_range hr (h x (List.mem_cons_self ..))
    have h2 := sumV_nonneg hr r (fun y hy => h y (List.mem_cons_of_mem _ hy))
    unfold sumV at *
    simp only [List.map_cons, List.sum_cons, List.length_cons]; omega
theorem visL_split (us : List T) (i : Nat) (hi : i < us.length) : visL us = visL (us.take i) ++ (visT false us[i] ++ visL (us.drop (i + 1))) := by
  conv => lhs; rw [← List.take_append_drop i us, List.drop_eq_getElem_cons hi]
  rw [visL_app]; rfl
theorem any_visT_unk (gs : List Sy) (a b : Bool) (t : T) : (visT a t).any (unkB gs) = (visT b t).any (unkB gs) := by
  rw [visT_eq, visT_eq]; rfl
theorem OkG.heads {gs : List Sy} {t : T} (h : OkG gs t) : ∀ x ∈ visT true t, x.2.head < 0 ∨ (0 ≤ x.2.head ∧ x.2.head < gs.length) :=
  fun x hx => h.head x.2.head (List.mem_map_of_mem (f := fun y : Bool × T => y.2.head) hx)
theorem OkG.child {gs : List Sy} {t : T} (h : OkG gs t) (i : Nat) (hi : i < t.args.length) : OkG gs t.args[i] ∧ wgtG gs t.args[i] < wgtG gs t := by
  obtain ⟨hd, us⟩ := t
  have hi' : i < us.length := hi
  have hs := visL_split us i hi'
  have hh := h.heads
  rw [visT_eq] at hh
  refine ⟨⟨h.right, chk_part h.chk i hi', ?_, ?_⟩, ?_⟩
  · have h1 := h.unk
    unfold unkG at h1 ⊢
    rw [visT_eq, List.any_cons, Bool.or_eq_false_iff] at h1
    have h2 := h1.2
    change (visL us).any (unkB gs) = false at h2
    rw [hs, List.any_append, List.any_append, Bool.or_eq_false_iff, Bool.or_eq_false_iff] at h2
    rw [any_visT_unk gs true false]
    exact h2.2.1
  · have h1 := h.mix
    unfold mixG at h1 ⊢
    rw [visT_eq, List.any_cons, Bool.or_eq_false_iff] at h1
    have h2 := h1.2
    change (visL us).any (mixB gs) = false at h2
    rw [hs, List.any_append, List.any_append, Bool.or_eq_false_iff, Bool.or_eq_false_iff] at h2
    have h3 := h2.2.1
    rw [visT_eq, List.any_cons, Bool.or_eq_false_iff] at h3
    rw [visT_eq, List.any_cons, Bool.or_eq_false_iff]
    exact ⟨by simp [mixB], h3.2⟩
  · have h1 := wB_range h.right (hh (true, .mk hd us) (List.mem_cons_self ..))
    have e : wgtG gs (T.mk hd us) = wB gs hd + sumV gs (visL us) := wgtG_eq gs _
    have h4 : ∀ x ∈ visL us, x.2.head < 0 ∨ (0 ≤ x.2.head ∧ x.2.head < gs.length) := fun x hx => hh x (List.mem_cons_of_mem _ hx)
    rw [e, hs, sumV_app, sumV_app, sumV_T]
    have h5 := sumV_nonneg h.right (visL (us.take i)) (fun x hx => h4 x (by rw [hs]; exact List.mem_append_left _ hx))
    have h6 := sumV_nonneg h.right (visL (us.drop (i + 1))) (fun x hx => h4 x (by rw [hs]; exact List.mem_append_right _ (List.mem_append_right _ hx)))
    have h7 : 1 ≤ wB gs hd := h1.1
    show wgtG gs us[i] < _
    omega
theorem OkG.at {gs : List Sy} : ∀ (p : List Int) {t u : T}, OkG gs t → atT t p = some u → OkG gs u ∧ (p = [] ∨ wgtG gs u < wgtG gs t)
  | [], t, u, h, hu => by simp [atT] at hu; subst hu; exact ⟨h, .inl rfl⟩
  | x :: r, t, u, h, hu => by
    rw [atT_c] at hu
    split at hu
    · rename_i hx
      obtain ⟨h1, h2⟩ := h.child x.toNat hx.2
      obtain ⟨h3, h4⟩ := OkG.at r h1 hu
      refine ⟨h3, .inr ?_⟩
      rcases h4 with rfl | h4
      · simp [atT] at hu; subst hu; exact h2
      · omega
    · cases hu

end Go.Proofs.Ytdbadicpbmndbaa
/- Walks: a term with all put; how heavy that is. -/
set_option linter.unusedVariables false
set_option linter.unusedSimpArgs false
/- short -/
namespace Go.Proofs.Ytdbadicpbmndbaa
open Go Lg

theorem FewB_does {I : Imm} {v : Value} {bs : List Bi} (hv : RepB I v bs) :
    Does Try.prog 35 [v] I [] (fun v I' δ' => (∃ b, v = .bool b ∧ (b = true → ∀ x ∈ bs, x.2.size ≤ 500)) ∧ δ' = []) := by
  obtain ⟨ad, c, rfl⟩ := hv.shape
  obtain ⟨_, hc, hb, hr, ss, hat, hsub⟩ := hv.open
  refine Does.intro Try.func35 rfl Try.ntmps35 rfl fun w0 => ?_
  refine code_seq ?_
  refine code_region ?_
  refine op_v (v_assign rfl) rfl ?_
  refine ops_nil ?_
  refine post_next ?_
  refine code_seq ?_
  refine code_region ?_
  refine op_v (v_assign rfl) rfl ?_
  refine ops_nil ?_
  refine post_next ?_
  refine code_seq ?_
  refine code_seq ?_
  refine code_region ?_
  refine op_v (v_assign rfl) rfl ?_
  refine ops_nil ?_
  refine post_next ?_
  refine code_block ?_
  refine code_loop (fun m σ' I' δ' => ∃ (k n : Nat), m = bs.length - k ∧ k ≤ bs.length ∧ σ' = [(0, .slice ad bs.length c), (3, .int .i64 n), (4, .int .i64 k)] ∧ I.le I' ∧ δ' = [] ∧ n ≤ 2000 ∧ (n ≤ 500 → ∀ i (h : i < bs.length), i < k → bs[i].2.size ≤ 500)) bs.length [(0, .slice ad bs.length c), (3, .int .i64 (0 : Nat)), (4, .int .i64 (0 : Nat))] ⟨0, 0, rfl, Nat.zero_le _, rfl, Imm.le_refl _, rfl, by omega, fun _ i _ h => by omega⟩ ⟨rfl, rfl, rfl, trivial⟩ ?_
  rintro m _ I0 _ ⟨k, n, rfl, hk, rfl, hI0, rfl, hn, hp⟩
  refine code_seq ?_
  refine code_seq ?_
  refine code_region ?_
  refine op_v (v_move rfl) rfl ?_
  refine op_v (v_move rfl) rfl ?_
  by_cases h7 : k < bs.length
  · have hs1 := (hat k h7).isSome
    refine op_v (v_len Try.underlying51 rfl) rfl ?_
    refine op_v (v_cmptA rfl rfl rfl) rfl ?_
    refine op_v (v_move rfl) rfl ?_
    refine op_want rfl rfl ?_
    refine op_v (v_move rfl) rfl ?_
    refine op_want rfl rfl ?_
    refine op_v (v_len Try.underlying51 rfl) rfl ?_
    by_cases h12 : bs.length ≤ 10
    · first
        | (refine op_want rfl rfl ?_
           refine op_v (v_cmptA rfl rfl rfl) rfl ?_)
        | (refine op_skip rfl rfl (by simp [undef]) rfl ?_)
      refine op_v (v_pickt rfl rfl) rfl ?_
      refine op_v (v_move rfl) rfl ?_
      refine op_want rfl rfl ?_
      refine op_v (v_move rfl) rfl ?_
      by_cases h16 : n ≤ 500
      · first
          | (refine op_want rfl rfl ?_
             refine op_v (v_cmptA rfl rfl rfl) rfl ?_)
          | (refine op_skip rfl rfl (by simp [undef]) rfl ?_)
        refine op_v (v_pickt rfl rfl) rfl ?_
        refine ops_nil ?_
        refine post_next ?_
        refine code_cond_t rfl ?_
        refine code_skip ?_
        refine post_next ?_
        refine code_seq ?_
        refine code_block ?_
        refine code_region ?_
        refine op_v (v_move rfl) rfl ?_
        refine op_v (v_move rfl) rfl ?_
        refine op_v (v_move rfl) rfl ?_
        refine op_v (v_indexA Try.underlying51 sz54 rfl rfl) rfl ?_
        refine op_v (v_fieldI 1 Try.underlying54 rfl rfl fz47 rfl (by assumption)) rfl ?_
        refine op_v (v_loadI ty47 ((hat k h7).mono hI0) rfl rfl rfl) rfl ?_
        refine op_call pl82 rfl rfl ((Count_does _ _ (Nat.le_refl _) 500 (by omega) _ _ ((hsub k h7).mono hI0))) Parts.none ?_
        rintro v26 I26 _ hI26 ⟨rfl, rfl⟩
        refine op_v (v_addb rfl rfl rfl (by omega)) rfl ?_
        refine op_v (v_assign rfl) rfl ?_
        refine ops_nil ?_
        refine post_out ?_
        refine post_next ?_
        refine code_region ?_
        refine op_v (v_move rfl) rfl ?_
        refine op_v (v_addb rfl rfl rfl (by omega)) rfl ?_
        refine op_v (v_assign rfl) rfl ?_
        refine ops_nil ?_
        refine post_again (bs.length - (k + 1)) [(0, .slice ad bs.length c), (3, .int .i64 ((n : Int) + ((min bs[k].2.size (500 + 1) : Nat) : Int))), (4, .int .i64 (k + 1 : Nat))] (by omega) ⟨k + 1, n + min bs[k].2.size (500 + 1), rfl, h7, by rw [show ((n + min bs[k].2.size (500 + 1) : Nat) : Int) = (n : Int) + ((min bs[k].2.size (500 + 1) : Nat) : Int) from Int.natCast_add _ _], Imm.leA, rfl, by omega, fun hq i h hi => ?_⟩ ⟨rfl, rfl, rfl, trivial⟩
        rcases Nat.lt_or_ge i k with hik | hik
        · exact hp (by omega) i h hik
        have hik2 : i = k := by omega
        subst hik2
        omega
      · first
          | (refine op_want rfl rfl ?_
             refine op_v (v_cmpfA rfl rfl rfl) rfl ?_)
          | (refine op_skip rfl rfl (by simp [undef]) rfl ?_)
        refine op_v (v_pickt rfl rfl) rfl ?_
        refine ops_nil ?_
        refine post_next ?_
        refine code_cond_f rfl ?_
        refine code_exit ?_
        refine post_exit_then ?_
        refine post_exit_then ?_
        refine post_exit ?_
        refine post_next ?_
        refine code_seq ?_
        refine code_region ?_
        refine op_v (v_move rfl) rfl ?_
        refine op_v (v_len Try.underlying51 rfl) rfl ?_
        refine op_v (v_cmptA rfl rfl rfl) rfl ?_
        refine op_v (v_move rfl) rfl ?_
        refine op_want rfl rfl ?_
        refine op_v (v_move rfl) rfl ?_
        first
          | (refine op_want rfl rfl ?_
             refine op_v (v_cmpfA rfl rfl rfl) rfl ?_)
          | (refine op_skip rfl rfl (by simp [undef]) rfl ?_)
        refine op_v (v_pickt rfl rfl) rfl ?_
        refine op_v (v_assign rfl) rfl ?_
        refine ops_nil ?_
        refine post_next ?_
        refine code_ret ?_
        refine post_ret (rs := [.tmp 2]) rfl (List.Perm.refl _) (.cons (.tmp rfl) .nil) (List.nil_sublist _) ?_
        exact ⟨⟨false, rfl, fun h => by cases h⟩, rfl⟩
    · first
        | (refine op_want rfl rfl ?_
           refine op_v (v_cmpfA rfl rfl rfl) rfl ?_)
        | (refine op_skip rfl rfl (by simp [undef]) rfl ?_)
      refine op_v (v_pickt rfl rfl) rfl ?_
      refine op_v (v_move rfl) rfl ?_
      refine op_skip rfl rfl (by simp [undef]) rfl ?_
      refine op_skip rfl rfl (by simp [undef]) rfl ?_
      refine op_v (v_pickf rfl rfl) rfl ?_
      refine ops_nil ?_
      refine post_next ?_
      refine code_cond_f rfl ?_
      refine code_exit ?_
      refine post_exit_then ?_
      refine post_exit_then ?_
      refine post_exit ?_
      refine post_next ?_
      refine code_seq ?_
      refine code_region ?_
      refine op_v (v_move rfl) rfl ?_
      refine op_v (v_len Try.underlying51 rfl) rfl ?_
      refine op_v (v_cmpfA rfl rfl rfl) rfl ?_
      refine op_v (v_move rfl) rfl ?_
      refine op_skip rfl rfl (by simp [undef]) rfl ?_
      refine op_skip rfl rfl (by simp [undef]) rfl ?_
      refine op_v (v_pickf rfl rfl) rfl ?_
      refine op_v (v_assign rfl) rfl ?_
      refine ops_nil ?_
      refine post_next ?_
      refine code_ret ?_
      refine post_ret (rs := [.tmp 2]) rfl (List.Perm.refl _) (.cons (.tmp rfl) .nil) (List.nil_sublist _) ?_
      exact ⟨⟨false, rfl, fun h => by cases h⟩, rfl⟩
  · refine op_v (v_len Try.underlying51 rfl) rfl ?_
    refine op_v (v_cmpfA rfl rfl rfl) rfl ?_
    refine op_v (v_move rfl) rfl ?_
    refine op_skip rfl rfl (by simp [undef]) rfl ?_
    refine op_skip rfl rfl (by simp [undef]) rfl ?_
    refine op_skip rfl rfl (by simp [undef]) rfl ?_
    refine op_v (v_pickf rfl rfl) rfl ?_
    refine op_v (v_move rfl) rfl ?_
    refine op_skip rfl rfl (by simp [undef]) rfl ?_
    refine op_skip rfl rfl (by simp [undef]) rfl ?_
    refine op_v (v_pickf rfl rfl) rfl ?_
    refine ops_nil ?_
    refine post_next ?_
    refine code_cond_f rfl ?_
    refine code_exit ?_
    refine post_exit_then ?_
    refine post_exit_then ?_
    refine post_exit ?_
    refine post_next ?_
    refine code_seq ?_
    refine code_region ?_
    refine op_v (v_move rfl) rfl ?_
    refine op_v (v_len Try.underlying51 rfl) rfl ?_
    by_cases h30 : bs.length ≤ 10
    · refine op_v (v_cmptA rfl rfl rfl) rfl ?_
      refine op_v (v_move rfl) rfl ?_
      refine op_want rfl rfl ?_
      refine op_v (v_move rfl) rfl ?_
      by_cases h33 : n ≤ 500
      · first
          | (refine op_want rfl rfl ?_
             refine op_v (v_cmptA rfl rfl rfl) rfl ?_)
          | (refine op_skip rfl rfl (by simp [undef]) rfl ?_)
        refine op_v (v_pickt rfl rfl) rfl ?_
        refine op_v (v_assign rfl) rfl ?_
        refine ops_nil ?_
        refine post_next ?_
        refine code_ret ?_
        refine post_ret (rs := [.tmp 2]) rfl (List.Perm.refl _) (.cons (.tmp rfl) .nil) (List.nil_sublist _) ?_
        exact ⟨⟨true, rfl, fun _ x hx => by obtain ⟨i, hi, rfl⟩ := List.getElem_of_mem hx; exact hp h33 i hi (by omega)⟩, rfl⟩
      · first
          | (refine op_want rfl rfl ?_
             refine op_v (v_cmpfA rfl rfl rfl) rfl ?_)
          | (refine op_skip rfl rfl (by simp [undef]) rfl ?_)
        refine op_v (v_pickt rfl rfl) rfl ?_
        refine op_v (v_assign rfl) rfl ?_
        refine ops_nil ?_
        refine post_next ?_
        refine code_ret ?_
        refine post_ret (rs := [.tmp 2]) rfl (List.Perm.refl _) (.cons (.tmp rfl) .nil) (List.nil_sublist _) ?_
        exact ⟨⟨false, rfl, fun h => by cases h⟩, rfl⟩
    · refine op_v (v_cmpfA rfl rfl rfl) rfl ?_
      refine op_v (v_move rfl) rfl ?_
      refine op_skip rfl rfl (by simp [undef]) rfl ?_
      refine op_skip rfl rfl (by simp [undef]) rfl ?_
      refine op_v (v_pickf rfl rfl) rfl ?_
      refine op_v (v_assign rfl) rfl ?_
      refine ops_nil ?_
      refine post_next ?_
      refine code_ret ?_
      refine post_ret (rs := [.tmp 2]) rfl (List.Perm.refl _) (.cons (.tmp rfl) .nil) (List.nil_sublist _) ?_
      exact ⟨⟨false, rfl, fun h => by cases h⟩, rfl⟩

/-! ### the plain law -/
mutual
theorem snd_T : ∀ (d : Nat) (b : Bool) (t : T), (partsT d t).map (·.2) = (visT b t).map (·.2)
  | d, b, .mk h us => by simp only [partsT, visT, List.map_cons, snd_L (d + 1) us]
theorem snd_L : ∀ (d : Nat) (us : List T), (partsL d us).map (·.2) = (visL us).map (·.2)
  | _, [] => rfl
  | d, t :: r => by simp only [partsL, visL, List.map_append, snd_T d false t, snd_L d r]
end
theorem chk_vis {t : T} (h : chkT t = 0) : ∀ x ∈ visT true t, (x.2.head < 0 → x.2.args = []) ∧ -256 ≤ x.2.head := by
  intro x hx
  have h1 : (partsT 1 t).any badN = false := by
    unfold chkT at h
    split at h
    · cases h
    · split at h
      · cases h
      · split at h
        · cases h
        · rename_i hq; exact Bool.eq_false_iff.2 hq
  have h2 : x.2 ∈ (partsT 1 t).map (·.2) := by rw [snd_T 1 true t]; exact List.mem_map_of_mem hx
  obtain ⟨y, hy, hyx⟩ := List.mem_map.1 h2
  rw [List.any_eq_false] at h1
  have h3 := h1 y hy
  simp only [badN, Bool.or_eq_true, Bool.and_eq_true, decide_eq_true_eq, not_or, not_and, hyx] at h3
  obtain ⟨⟨⟨h4, h5⟩, _⟩, _⟩ := h3
  refine ⟨fun hn => List.eq_nil_of_length_eq_zero (by have := h4 hn; omega), by omega⟩
def accF (F : Int → Int) (l : List Int) : Nat → Int
  | 0 => 0
  | n + 1 => accF F l n + ((l.count (-1 - (n : Int)) : Nat) : Int) * F (-1 - (n : Int))
def moreF (gs : List Sy) (bs : List Bi) (k : Int) : Int := wgtG gs (ofT bs (.mk k [])) - 1
structure Puts (gs : List Sy) (bs : List Bi) (t : T) (cs : List Int) : Prop where
  tot : wgtG gs (sbT bs t) = wgtG gs t + accF (moreF gs bs) (hds t) cs.length
  ok : ∀ v : Nat, v < cs.length → cs.getD v 0 ≠ 0 → OkG gs (ofT bs (.mk (-1 - (v : Int)) []))
  get : ∀ v : Nat, v < cs.length → cs.getD v 0 = (((hds t).count (-1 - (v : Int)) : Nat) : Int)
  le : ∀ v : Nat, v ≤ cs.length → 0 ≤ accF (moreF gs bs) (hds t) v ∧ accF (moreF gs bs) (hds t) v ≤ 400000
  one : ∀ v : Nat, v < cs.length → 0 ≤ (((hds t).count (-1 - (v : Int)) : Nat) : Int) * moreF gs bs (-1 - (v : Int))
  len : cs.length ≤ 256
end Go.Proofs.Ytdbadicpbmndbaa
/- The order of terms: plain facts. No condition. -/
set_option linter.unusedVariables false
set_option linter.unusedSimpArgs false
namespace Go.Proofs.Ytdbadicpbmndbaa

abbrev cn (t : T) (k : Int) : Nat := (hds t).count k
def vleB (a b : T) : Bool := (hds b).all fun k => decide (0 ≤ k) || decide (cn b k ≤ cn a k)
def sideG (a b : T) (n : Int) : Int := if 0 < n ∧ vleB a b = true then 1 else if n < 0 ∧ vleB b a = true then -1 else 2
mutual
def stT (gs : List Sy) : T → T → Int
  | .mk h us, b =>
    if T.mk h us = b then 0
    else if wgtG gs (.mk h us) ≠ wgtG gs b then sideG (.mk h us) b (wgtG gs (.mk h us) - wgtG gs b)
    else if h < 0 ∨ b.head < 0 then 2
    else if h ≠ b.head then sideG (.mk h us) b (h - b.head)
    else if stL gs us b.args = 0 then 0
    else if stL gs us b.args = 2 then 2
    else sideG (.mk h us) b (stL gs us b.args)
def stL (gs : List Sy) : List T → List T → Int
  | a :: r, b :: q => if stT gs a b ≠ 0 then stT gs a b else stL gs r q
  | _, _ => 0
end
/-! ### on right terms -/
theorem OkG.arity {gs : List Sy} {t : T} (h : OkG gs t) (h0 : 0 ≤ t.head) : (t.args.length : Int) = arG gs t.head := by
  have h1 := h.unk
  unfold unkG at h1
  rw [visT_eq, List.any_cons, Bool.or_eq_false_iff] at h1
  have h2 := h1.1
  simp only [unkB, Bool.and_eq_false_iff, decide_eq_false_iff_not, Bool.or_eq_false_iff] at h2
  rcases h2 with h2 | h2
  · exact absurd h0 h2
  · have := h2.2; simpa using this
theorem OkG.args {gs : List Sy} {t : T} (h : OkG gs t) : ∀ x ∈ t.args, OkG gs x := fun x hx => by
  obtain ⟨i, hi, rfl⟩ := List.getElem_of_mem hx
  exact (h.child i hi).1
theorem OkG.leaf {gs : List Sy} {t : T} (h : OkG gs t) (hn : t.head < 0) : t.args = [] := (chk_vis h.chk (true, t) (by rw [visT_eq]; exact List.mem_cons_self ..)).1 hn
end Go.Proofs.Ytdbadicpbmndbaa
/- The order of terms and places, and what is put: plain facts. No condition. -/
set_option linter.unusedVariables false
set_option linter.unusedSimpArgs false
namespace Go.Proofs.Ytdbadicpbmndbaa

/-! ### counts -/
/-! ### the same around both -/
/-! ### what is put -/
end Go.Proofs.Ytdbadicpbmndbaa
/- Rows of terms: plain facts. No condition. -/
set_option linter.unusedVariables false
set_option linter.unusedSimpArgs false
namespace Go.Proofs.Ytdbadicpbmndbaa

/-- a row without what another one has, as often -/
def rsL : List T → List T → List T
  | [], _ => []
  | t :: r, left => if t ∈ left then rsL r (left.erase t) else t :: rsL r left
def overL (gs : List Sy) (a b : List T) : Bool := decide (0 < a.length) && b.all fun u => a.any fun t => decide (stT gs t u = 1)
def mulG (gs : List Sy) (a b : List T) : Int :=
  if (rsL a b).length + (rsL b a).length = 0 then 0 else if overL gs (rsL a b) (rsL b a) = true then 1 else if overL gs (rsL b a) (rsL a b) = true then -1 else 2
end Go.Proofs.Ytdbadicpbmndbaa
/- Walks: how two terms stand to one another. -/
set_option linter.unusedVariables false
set_option linter.unusedSimpArgs false
/- short -/
namespace Go.Proofs.Ytdbadicpbmndbaa
open Go Lg

/-- a map holds whole numbers -/
def VM (xs : Mp) (D : Int → Int) : Prop := (xs.map (·.1)).Nodup ∧ ∀ k, (mget xs k).getD (.int .i64 0) = .int .i64 (D k)
theorem VM.nil : VM [] (fun _ => 0) := ⟨by simp, fun k => rfl⟩
theorem VM.put {xs : Mp} {D : Int → Int} (h : VM xs D) (k c : Int) : VM (mput xs k (.int .i64 (D k + c))) (fun j => if k = j then D j + c else D j) := by
  refine ⟨mput_nodup h.1, fun j => ?_⟩
  rw [mget_mput]
  by_cases e : k = j
  · subst e; simp
  · rw [if_neg e, h.2 j]; simp only [if_neg e]
theorem VM.entry {xs : Mp} {D : Int → Int} (h : VM xs D) {p : Int × Value} (hp : p ∈ xs) : p.2 = .int .i64 (D p.1) := by
  have h1 := (mget_mem h.1 (k := p.1) (v := p.2)).1 hp
  have h2 := h.2 p.1
  rw [h1] at h2; exact h2
theorem VM.some {xs : Mp} {D : Int → Int} (h : VM xs D) {k : Int} (hk : D k ≠ 0) : ∃ p ∈ xs, p.1 = k ∧ p.2 = .int .i64 (D k) := by
  have h2 := h.2 k
  cases hm : mget xs k with
  | none => rw [hm] at h2; simp at h2; exact absurd h2.symm hk
  | some u => rw [hm] at h2; simp at h2; subst h2; exact ⟨(k, .int .i64 (D k)), (mget_mem h.1).2 hm, rfl, rfl⟩
theorem VM.congr {xs : Mp} {D E : Int → Int} (h : VM xs D) (e : ∀ k, D k = E k) : VM xs E := ⟨h.1, fun k => by rw [h.2 k, e k]⟩
end Go.Proofs.Ytdbadicpbmndbaa
/- Walks: how two terms stand to one another. -/
set_option linter.unusedVariables false
set_option linter.unusedSimpArgs false
/- short -/
namespace Go.Proofs.Ytdbadicpbmndbaa
open Go Lg

end Go.Proofs.Ytdbadicpbmndbaa
/- Walks: how two terms stand to one another. -/
set_option linter.unusedVariables false
set_option linter.unusedSimpArgs false
/- short -/
namespace Go.Proofs.Ytdbadicpbmndbaa
open Go Lg

end Go.Proofs.Ytdbadicpbmndbaa
/- Walks: some term among others; rows without others. -/
set_option linter.unusedVariables false
set_option linter.unusedSimpArgs false
/- short -/
namespace Go.Proofs.Ytdbadicpbmndbaa
open Go Lg

def idxQ {α : Type} (p : α → Bool) : List α → Int
  | [] => -1
  | s :: r => if p s then 0 else if idxQ p r < 0 then -1 else idxQ p r + 1
theorem idxQ_none {α : Type} (p : α → Bool) : ∀ gs : List α, gs.any p = false → idxQ p gs = -1
  | [], _ => rfl
  | s :: r, h => by simp only [List.any_cons, Bool.or_eq_false_iff] at h; simp [idxQ, h.1, idxQ_none p r h.2]
theorem idxQ_hit {α : Type} (p : α → Bool) : ∀ (gs : List α) (k : Nat) (h : k < gs.length), (gs.take k).any p = false → p gs[k] = true → idxQ p gs = k
  | s :: r, 0, _, _, hk => by simp at hk; simp [idxQ, hk]
  | s :: r, k + 1, h, hp, hk => by
    simp only [List.take_succ_cons, List.any_cons, Bool.or_eq_false_iff] at hp
    have := idxQ_hit p r k (by simpa using h) hp.2 (by simpa using hk)
    simp only [idxQ, hp.1, Bool.false_eq_true, if_false, this]
    rw [if_neg (by omega)]; omega
theorem idxQ_any {α : Type} (p : α → Bool) : ∀ gs : List α, (0 ≤ idxQ p gs ↔ gs.any p = true) ∧ -1 ≤ idxQ p gs
  | [] => by simp [idxQ]
  | s :: r => by
    obtain ⟨h1, h2⟩ := idxQ_any p r
    simp only [idxQ, List.any_cons, Bool.or_eq_true, ← h1]
    by_cases h : p s = true
    · simp [h]
    · simp only [h, Bool.false_eq_true, if_false, false_or]; split <;> omega
theorem any_take_q {α : Type} {p : α → Bool} {gs : List α} {k : Nat} (h : k < gs.length) (hp : (gs.take k).any p = false) (hk : p gs[k] = false) : (gs.take (k + 1)).any p = false := by
  rw [List.take_succ_eq_append_getElem h, List.any_append, hp]; simp [hk]
theorem RepS.shape {I : Imm} {v : Value} {ts : List T} (h : RepS I v ts) : ∃ ad c, v = .slice ad ts.length c := by
  obtain ⟨ad, c, ss, ts, _, _, _, _, _⟩ := h; exact ⟨ad, c, rfl⟩

theorem IdxT_does {I : Imm} {v fv : Value} {ts : List T} {δf : List Ent} {p : T → Bool} (hv : RepS I v ts) (hf : ∀ J u t, I.le J → RepT J u t → t ∈ ts → FDoes Try.prog fv [u] J δf (fun v _ δ' => v = .bool (p t) ∧ δ' = δf)) :
    Does Try.prog 142 [v, fv] I δf (fun v _ δ' => v = .int .i64 (idxQ p ts) ∧ δ' = δf) := by
  obtain ⟨ad, c, ss, ts, hc, hb, hat, hr, hsub0⟩ := hv
  have hsub : ∀ i (h : i < ts.length), RepT I (.agg #[.int .i64 ts[i].head, .slice (ss i).1 ts[i].args.length (ss i).2]) ts[i] := fun i hi => RepT.mk _ _ (hr i hi) (hsub0 i hi)
  refine Does.intro Try.func142 rfl Try.ntmps142 rfl fun w0 => ?_
  refine code_seq ?_
  refine code_region ?_
  refine op_v (v_assign rfl) rfl ?_
  refine ops_nil ?_
  refine post_next ?_
  refine code_seq ?_
  refine code_seq ?_
  refine code_region ?_
  refine op_v (v_move rfl) rfl ?_
  refine op_v (v_len Try.underlying45 rfl) rfl ?_
  refine op_v (v_move rfl) rfl ?_
  refine ops_nil ?_
  refine post_next ?_
  refine code_block ?_
  refine code_loop (fun m σ' I' δ' => ∃ k : Nat, m = ts.length - k ∧ k ≤ ts.length ∧ σ' = [(0, .slice ad ts.length c), (1, fv), (7, .int .i64 ts.length), (8, .int .i64 k)] ∧ I.le I' ∧ δ' = δf ∧ (ts.take k).any p = false) ts.length [(0, .slice ad ts.length c), (1, fv), (7, .int .i64 ts.length), (8, .int .i64 (0 : Nat))] ⟨0, rfl, Nat.zero_le _, rfl, Imm.le_refl _, rfl, rfl⟩ ⟨rfl, rfl, rfl, rfl, trivial⟩ ?_
  rintro m _ I0 _ ⟨k, rfl, hk, rfl, hI0, rfl, hp⟩
  refine code_seq ?_
  refine code_region ?_
  refine op_v (v_cmp rfl rfl rfl) rfl ?_
  refine ops_nil ?_
  refine post_next ?_
  refine code_seq ?_
  refine code_cond rfl (fun hc0 => ?_) (fun hc0 => ?_)
  · have hlt : k < ts.length := by simpa using hc0
    have hs1 := (hat k hlt).isSome
    refine code_skip ?_
    refine post_next ?_
    refine code_seq ?_
    refine code_block ?_
    refine code_seq ?_
    refine code_region ?_
    refine op_v (v_move rfl) rfl ?_
    refine op_v (v_assign rfl) rfl ?_
    refine ops_nil ?_
    refine post_next ?_
    refine code_seq ?_
    refine code_region ?_
    refine op_v (v_move rfl) rfl ?_
    refine op_v (v_move rfl) rfl ?_
    refine op_v (v_move rfl) rfl ?_
    refine op_v (v_indexA Try.underlying45 sz47 rfl rfl) rfl ?_
    refine op_v (v_loadI0 ty47 ((hat k hlt).mono hI0) rfl rfl rfl) rfl ?_
    refine op_fcall rfl rfl rfl ((hf _ _ ts[k] hI0 ((hsub k hlt).mono hI0) (List.getElem_mem _))) Parts.all ?_
    rintro v16 I16 _ hI16 ⟨rfl, rfl⟩
    rw [List.append_nil]
    refine ops_nil ?_
    refine post_next ?_
    refine code_cond rfl (fun hc1 => ?_) (fun hc1 => ?_)
    · refine code_seq ?_
      refine code_region ?_
      refine op_v (v_move rfl) rfl ?_
      refine op_v (v_assign rfl) rfl ?_
      refine ops_nil ?_
      refine post_next ?_
      refine code_ret ?_
      refine post_ret_block ?_
      refine post_ret_then ?_
      refine post_ret_then ?_
      refine post_ret_block ?_
      refine post_ret_then ?_
      refine post_ret (rs := [.tmp 4]) rfl (List.Perm.refl _) (.cons (.tmp rfl) .nil) (List.Sublist.refl _) ?_
      exact ⟨by rw [idxQ_hit p ts k hlt hp hc1]; rfl, rfl⟩
    · refine code_skip ?_
      refine post_out ?_
      refine post_next ?_
      refine code_region ?_
      refine op_v (v_addb rfl rfl rfl (by omega)) rfl ?_
      refine op_v (v_move rfl) rfl ?_
      refine ops_nil ?_
      refine post_again (ts.length - (k + 1)) [(0, .slice ad ts.length c), (1, fv), (7, .int .i64 ts.length), (8, .int .i64 (k + 1 : Nat))] (by omega) ⟨k + 1, rfl, hlt, rfl, Imm.le_trans hI0 hI16, rfl, any_take_q hlt hp hc1⟩ ⟨rfl, rfl, rfl, rfl, trivial⟩
  · have hge : k = ts.length := by simp at hc0; omega
    subst hge
    rw [List.take_length] at hp
    refine code_exit ?_
    refine post_exit_then ?_
    refine post_exit_then ?_
    refine post_exit ?_
    refine post_next ?_
    refine code_seq ?_
    refine code_region ?_
    refine op_v (v_assign rfl) rfl ?_
    refine ops_nil ?_
    refine post_next ?_
    refine code_ret ?_
    refine post_ret (rs := [.tmp 4]) rfl (List.Perm.refl _) (.cons (.tmp rfl) .nil) (List.Sublist.refl _) ?_
    exact ⟨by rw [idxQ_none p ts hp]; rfl, rfl⟩
theorem ContT_does {I : Imm} {v fv : Value} {ts : List T} {δf : List Ent} {p : T → Bool} (hv : RepS I v ts) (hf : ∀ J u t, I.le J → RepT J u t → t ∈ ts → FDoes Try.prog fv [u] J δf (fun v _ δ' => v = .bool (p t) ∧ δ' = δf)) :
    Does Try.prog 103 [v, fv] I δf (fun v _ δ' => v = .bool (ts.any p) ∧ δ' = δf) := by
  refine Does.intro Try.func103 rfl Try.ntmps103 rfl fun w0 => ?_
  refine code_seq ?_
  refine code_region ?_
  refine op_v (v_assign rfl) rfl ?_
  refine ops_nil ?_
  refine post_next ?_
  refine code_seq ?_
  refine code_region ?_
  refine op_v (v_move rfl) rfl ?_
  refine op_v (v_move rfl) rfl ?_
  refine op_call pl142 rfl rfl ((IdxT_does hv hf)) Parts.all ?_
  rintro v7 I7 _ hI7 ⟨rfl, rfl⟩
  rw [List.append_nil]
  refine op_v (v_cmp rfl rfl rfl) rfl ?_
  refine op_v (v_assign rfl) rfl ?_
  refine ops_nil ?_
  refine post_next ?_
  refine code_ret ?_
  refine post_ret (rs := [.tmp 4]) rfl (List.Perm.refl _) (.cons (.tmp rfl) .nil) (List.Sublist.refl _) ?_
  exact ⟨bool_b (by have := (idxQ_any p ts).1; cases h : ts.any p <;> simp_all), rfl⟩
/-- in a row of one's own -/
abbrev tRow (A : Option Addr) (c n : Nat) (xs : List Value) : Ent := .row (.slice A n c) 47 2 n xs
end Go.Proofs.Ytdbadicpbmndbaa
/- Walks: rows without others; which row is over another one. -/
set_option linter.unusedVariables false
set_option linter.unusedSimpArgs false
/- short -/
namespace Go.Proofs.Ytdbadicpbmndbaa
open Go Lg

theorem RowT.one1 {I : Imm} {xs : List Value} {ts : List T} (h : RowT I xs ts) : ∀ u ∈ xs, u.oneCell' = true := fun u hu => by
  obtain ⟨j, hj, rfl⟩ := List.getElem_of_mem hu
  have hl := h.1
  obtain ⟨s, h1, h2, _⟩ := h.2 (j / 2) (by omega)
  rcases Nat.mod_two_eq_zero_or_one j with e | e
  · have ej : j / 2 * 2 = j := by omega
    rw [ej, List.getElem?_eq_getElem hj] at h1
    rw [Option.some.inj h1]; rfl
  · have ej : j / 2 * 2 + 1 = j := by omega
    rw [ej, List.getElem?_eq_getElem hj] at h2
    rw [Option.some.inj h2]; rfl
theorem RowT.del {I : Imm} {xs : List Value} {ts : List T} {i : Nat} (h : RowT I xs ts) (hi : i < ts.length) : RowT I (xs.take (i * 2) ++ (xs.drop ((i + 1) * 2)).take ((ts.length - (i + 1)) * 2)) (ts.eraseIdx i) := by
  have hl := h.1
  have e : ts.eraseIdx i = ts.take i ++ ts.drop (i + 1) := List.eraseIdx_eq_take_drop_succ ..
  rw [e]
  refine RowT.app ⟨by rw [List.length_take, List.length_take]; omega, fun j hj => ?_⟩ ⟨by rw [List.length_take, List.length_drop, List.length_drop]; omega, fun j hj => ?_⟩
  · have hj' : j < i := by rw [List.length_take] at hj; omega
    obtain ⟨s, h1, h2, h3⟩ := h.2 j (by omega)
    have e2 : (ts.take i)[j] = ts[j]'(by omega) := List.getElem_take
    rw [e2]
    exact ⟨s, by rw [List.getElem?_take_of_lt (by omega)]; exact h1, by rw [List.getElem?_take_of_lt (by omega)]; exact h2, h3⟩
  · have hj' : j < ts.length - (i + 1) := by rw [List.length_drop] at hj; exact hj
    obtain ⟨s, h1, h2, h3⟩ := h.2 (i + 1 + j) (by omega)
    have e2 : (ts.drop (i + 1))[j] = ts[i + 1 + j]'(by omega) := List.getElem_drop
    rw [e2]
    exact ⟨s, by rw [List.getElem?_take_of_lt (by omega), List.getElem?_drop, show (i + 1) * 2 + j * 2 = (i + 1 + j) * 2 by omega]; exact h1, by rw [List.getElem?_take_of_lt (by omega), List.getElem?_drop, show (i + 1) * 2 + (j * 2 + 1) = (i + 1 + j) * 2 + 1 by omega]; exact h2, h3⟩
end Go.Proofs.Ytdbadicpbmndbaa
/- Walks: which row is over another one; how two rows stand. -/
set_option linter.unusedVariables false
set_option linter.unusedSimpArgs false
/- short -/
namespace Go.Proofs.Ytdbadicpbmndbaa
open Go Lg

end Go.Proofs.Ytdbadicpbmndbaa
/- Walks: the example of the chapter on the order; few signatures and terms. -/
set_option linter.unusedVariables false
set_option linter.unusedSimpArgs false
/- short -/
namespace Go.Proofs.Ytdbadicpbmndbaa
open Go Lg

end Go.Proofs.Ytdbadicpbmndbaa
/- Walks: literals: whether two are the same, what they are compared by. -/
set_option linter.unusedVariables false
set_option linter.unusedSimpArgs false
set_option linter.unnecessarySimpa false
/- short -/
namespace Go.Proofs.Ytdbadicpbmndbaa
open Go Lg

/-! ### walks -/
end Go.Proofs.Ytdbadicpbmndbaa
/- Clauses, plainly: what is left of one behind Tidy. Walks: whether one of a row of literals is so; two clauses, literal by literal. -/
set_option linter.unusedVariables false
set_option linter.unusedSimpArgs false
set_option linter.unnecessarySimpa false
/- short -/
namespace Go.Proofs.Ytdbadicpbmndbaa
open Go Lg

/-! ### plain -/
def trivL (x : Li) : Bool := decide (x.l = x.r)
/-- what is not left -/
def goneL (acc : List Li) (x : Li) : Bool := acc.any (fun m => sameL x m) || (x.neg && trivL x)
def TidyOK (t : List Li) : Prop := ∀ i (hi : i < t.length), goneL (t.take i) t[i] = false
theorem TidyOK.push {t : List Li} {x : Li} (h : TidyOK t) (hx : goneL t x = false) : TidyOK (t ++ [x]) := fun i hi => by
  by_cases q : i < t.length
  · rw [List.getElem_append_left q, List.take_append_of_le_length (by omega)]; exact h i q
  · have : i = t.length := by simp at hi; omega
    subst this
    rw [List.getElem_append_right (by omega), List.take_left]; simpa using hx
theorem TidyOK.same {t : List Li} (h : TidyOK t) {i j : Nat} (hi : i < t.length) (hij : j < i) : sameL t[i] (t[j]'(by omega)) = false := by
  have := h i hi
  unfold goneL at this
  rw [Bool.or_eq_false_iff] at this
  have h1 := List.any_eq_false.1 this.1 (t[j]'(by omega)) (List.mem_take_iff_getElem.2 ⟨j, by omega, rfl⟩)
  simpa using h1
/-! ### walks -/
/-- a function of a literal -/
abbrev LitP (P : Program) (fv : Value) (I : Imm) (δf : List Ent) (c : List Li) (p : Li → Bool) : Prop := ∀ J x u, I.le J → LitE.R J x u → x ∈ c → FDoes P fv [.agg u.toArray] J δf (fun v _ δ' => v = .bool (p x) ∧ δ' = δf)
def IdxH (c : List Li) (p : Li → Bool) (n : Int) : Prop := (n = -1 ∧ c.any p = false) ∨ ∃ (j : Nat) (h : j < c.length), n = j ∧ p c[j] = true ∧ (c.take j).any p = false
theorem IdxH.any {c : List Li} {p : Li → Bool} {n : Int} (h : IdxH c p n) : decide (0 ≤ n) = c.any p := by
  rcases h with ⟨rfl, h⟩ | ⟨j, hj, rfl, h, _⟩
  · rw [h]; rfl
  · rw [show c.any p = true from List.any_eq_true.2 ⟨c[j], List.getElem_mem hj, h⟩]; simp
theorem IdxC_does {I : Imm} {v fv : Value} {c : List Li} {δf : List Ent} {p : Li → Bool} (hv : RepC I v c) (hf : LitP Try.prog fv I δf c p) :
    Does Try.prog 116 [v, fv] I δf (fun v _ δ' => (∃ n : Int, v = .int .i64 n ∧ IdxH c p n) ∧ δ' = δf) := by
  obtain ⟨ad, c0, xs, rfl, hc, hb, hcells, hrow⟩ := hv
  refine Does.intro Try.func116 rfl Try.ntmps116 rfl fun w0 => ?_
  refine code_seq ?_
  refine code_region ?_
  refine op_v (v_assign rfl) rfl ?_
  refine ops_nil ?_
  refine post_next ?_
  refine code_seq ?_
  refine code_seq ?_
  refine code_region ?_
  refine op_v (v_move rfl) rfl ?_
  refine op_v (v_len Try.underlying26 rfl) rfl ?_
  refine op_v (v_move rfl) rfl ?_
  refine ops_nil ?_
  refine post_next ?_
  refine code_block ?_
  refine code_loop (fun m σ' I' δ' => ∃ k : Nat, m = c.length - k ∧ k ≤ c.length ∧ σ' = [(0, .slice ad c.length c0), (1, fv), (7, .int .i64 c.length), (8, .int .i64 k)] ∧ I.le I' ∧ δ' = δf ∧ (c.take k).any p = false) c.length [(0, .slice ad c.length c0), (1, fv), (7, .int .i64 c.length), (8, .int .i64 (0 : Nat))] ⟨0, rfl, Nat.zero_le _, rfl, Imm.le_refl _, rfl, rfl⟩ ⟨rfl, rfl, rfl, rfl, trivial⟩ ?_
  rintro m _ I0 _ ⟨k, rfl, hk, rfl, hI0, rfl, hp⟩
  refine code_seq ?_
  refine code_region ?_
  refine op_v (v_cmp rfl rfl rfl) rfl ?_
  refine ops_nil ?_
  refine post_next ?_
  refine code_seq ?_
  refine code_cond rfl (fun hc0 => ?_) (fun hc0 => ?_)
  · have hlt : k < c.length := by simpa using hc0
    obtain ⟨vs, ⟨la, lc, ra, rc, rfl, hl, hr⟩, hat⟩ := hrow.cellsAt hcells hlt
    have hs1 := hat.isSome
    refine code_skip ?_
    refine post_next ?_
    refine code_seq ?_
    refine code_block ?_
    refine code_seq ?_
    refine code_region ?_
    refine op_v (v_move rfl) rfl ?_
    refine op_v (v_assign rfl) rfl ?_
    refine ops_nil ?_
    refine post_next ?_
    refine code_seq ?_
    refine code_region ?_
    refine op_v (v_move rfl) rfl ?_
    refine op_v (v_move rfl) rfl ?_
    refine op_v (v_move rfl) rfl ?_
    refine op_v (v_indexA Try.underlying26 sz49 rfl rfl) rfl ?_
    refine op_v (v_loadI0 ty49 (hat.mono hI0) rfl rfl rfl) rfl ?_
    refine op_fcall rfl rfl rfl ((hf _ c[k] (liC c[k] la lc ra rc) hI0 ⟨la, lc, ra, rc, rfl, hl.mono hI0, hr.mono hI0⟩ (List.getElem_mem hlt))) Parts.all ?_
    rintro v16 I16 _ hI16 ⟨rfl, rfl⟩
    rw [List.append_nil]
    refine ops_nil ?_
    refine post_next ?_
    refine code_cond rfl (fun hc1 => ?_) (fun hc1 => ?_)
    · refine code_seq ?_
      refine code_region ?_
      refine op_v (v_move rfl) rfl ?_
      refine op_v (v_assign rfl) rfl ?_
      refine ops_nil ?_
      refine post_next ?_
      refine code_ret ?_
      refine post_ret_block ?_
      refine post_ret_then ?_
      refine post_ret_then ?_
      refine post_ret_block ?_
      refine post_ret_then ?_
      refine post_ret (rs := [.tmp 4]) rfl (List.Perm.refl _) (.cons (.tmp rfl) .nil) (List.Sublist.refl _) ?_
      exact ⟨⟨k, rfl, .inr ⟨k, hlt, rfl, hc1, hp⟩⟩, rfl⟩
    · refine code_skip ?_
      refine post_out ?_
      refine post_next ?_
      refine code_region ?_
      refine op_v (v_addb rfl rfl rfl (by omega)) rfl ?_
      refine op_v (v_move rfl) rfl ?_
      refine ops_nil ?_
      refine post_again (c.length - (k + 1)) [(0, .slice ad c.length c0), (1, fv), (7, .int .i64 c.length), (8, .int .i64 (k + 1 : Nat))] (by omega) ⟨k + 1, rfl, hlt, rfl, Imm.le_trans hI0 hI16, rfl, by rw [List.take_succ_eq_append_getElem hlt, List.any_append, hp]; simp [hc1]⟩ ⟨rfl, rfl, rfl, rfl, trivial⟩
  · have hge : k = c.length := by simp at hc0; omega
    subst hge
    rw [List.take_length] at hp
    refine code_exit ?_
    refine post_exit_then ?_
    refine post_exit_then ?_
    refine post_exit ?_
    refine post_next ?_
    refine code_seq ?_
    refine code_region ?_
    refine op_v (v_assign rfl) rfl ?_
    refine ops_nil ?_
    refine post_next ?_
    refine code_ret ?_
    refine post_ret (rs := [.tmp 4]) rfl (List.Perm.refl _) (.cons (.tmp rfl) .nil) (List.Sublist.refl _) ?_
    exact ⟨⟨-1, rfl, .inl ⟨rfl, hp⟩⟩, rfl⟩
abbrev cRow (A : Option Addr) (c : Nat) (n : Nat) (xs : List Value) : Ent := .row (.slice A n c) 49 5 n xs
theorem ContC_does {I : Imm} {v fv : Value} {c : List Li} {δf : List Ent} {p : Li → Bool} (hv : RepC I v c) (hf : LitP Try.prog fv I δf c p) :
    Does Try.prog 74 [v, fv] I δf (fun v _ δ' => v = .bool (c.any p) ∧ δ' = δf) := by
  refine Does.intro Try.func74 rfl Try.ntmps74 rfl fun w0 => ?_
  refine code_seq ?_
  refine code_region ?_
  refine op_v (v_assign rfl) rfl ?_
  refine ops_nil ?_
  refine post_next ?_
  refine code_seq ?_
  refine code_region ?_
  refine op_v (v_move rfl) rfl ?_
  refine op_v (v_move rfl) rfl ?_
  refine op_call pl116 rfl rfl ((IdxC_does hv hf)) Parts.all ?_
  rintro v7 I7 _ hI7 ⟨⟨n, rfl, hn⟩, rfl⟩
  rw [List.append_nil]
  refine op_v (v_cmp (z := c.any p) rfl rfl (by rw [← hn.any]; rfl)) rfl ?_
  refine op_v (v_assign rfl) rfl ?_
  refine ops_nil ?_
  refine post_next ?_
  refine code_ret ?_
  refine post_ret (rs := [.tmp 4]) rfl (List.Perm.refl _) (.cons (.tmp rfl) .nil) (List.Sublist.refl _) ?_
  exact ⟨rfl, rfl⟩
end Go.Proofs.Ytdbadicpbmndbaa
/- Walks: whether a literal is one of a signature; how two stand. -/
set_option linter.unusedVariables false
set_option linter.unusedSimpArgs false
set_option linter.unnecessarySimpa false
/- short -/
namespace Go.Proofs.Ytdbadicpbmndbaa
open Go Lg

def trL (gs : List Sy) (t : T) : Bool := decide (0 ≤ t.head) && trG gs t.head
def sortL (gs : List Sy) (x : Li) : Bool := (trL gs x.l && decide (x.r.head ≠ 0)) || (!trL gs x.l && trL gs x.r)
def litG (gs : List Sy) (x : Li) : Int := if termG gs x.l ≠ 0 then termG gs x.l else if termG gs x.r ≠ 0 then termG gs x.r else if sortL gs x = true then 10 else 0
theorem litG_ok {gs : List Sy} {x : Li} (h : litG gs x = 0) : OkG gs x.l ∧ OkG gs x.r := by
  unfold litG at h
  by_cases h1 : termG gs x.l = 0
  · by_cases h2 : termG gs x.r = 0
    · exact ⟨termG_ok.1 h1, termG_ok.1 h2⟩
    · rw [if_neg (by omega), if_pos h2] at h; exact absurd h h2
  · rw [if_pos h1] at h; exact absurd h h1
end Go.Proofs.Ytdbadicpbmndbaa
/- Walks: a clause's sides, what is left of it, whether it always holds, whether it is right, its variables. -/
set_option linter.unusedVariables false
set_option linter.unusedSimpArgs false
set_option linter.unnecessarySimpa false
/- short -/
namespace Go.Proofs.Ytdbadicpbmndbaa
open Go Lg

/-- sides of no great size -/
def SmC (c : List Li) : Prop := ∀ x ∈ c, x.l.size ≤ 1000000000 ∧ x.r.size ≤ 1000000000
theorem FewC.sm {c : List Li} (h : FewC c) : SmC c := fun x hx => by have := h.sides x hx; omega
theorem SmC.at {c : List Li} (h : SmC c) {k : Nat} (hk : k < c.length) : c[k].l.size ≤ 1000000000 ∧ c[k].r.size ≤ 1000000000 := h _ (List.getElem_mem hk)
theorem SmC.sub {c d : List Li} (h : SmC c) (hd : ∀ x ∈ d, x ∈ c) : SmC d := fun x hx => h x (hd x hx)
theorem Cterms_does {I : Imm} {v : Value} {c : List Li} (hv : RepC I v c) :
    Does Try.prog 85 [v] I [] (fun v I' δ' => RepS I' v (sidesL c) ∧ δ' = []) := by
  obtain ⟨ad, c0, xs, rfl, hc, hb, hcells, hrow⟩ := hv
  refine Does.intro Try.func85 rfl Try.ntmps85 rfl fun w0 => ?_
  refine code_seq ?_
  refine code_region ?_
  refine op_v (v_assign rfl) rfl ?_
  refine ops_nil ?_
  refine post_next ?_
  refine code_seq ?_
  refine code_region ?_
  refine op_v (v_assign rfl) rfl ?_
  refine ops_nil ?_
  refine post_next ?_
  refine code_seq ?_
  refine code_seq ?_
  refine code_region ?_
  refine op_v (v_move rfl) rfl ?_
  refine op_v (v_len Try.underlying26 rfl) rfl ?_
  refine op_v (v_move rfl) rfl ?_
  refine ops_nil ?_
  refine post_next ?_
  refine code_block ?_
  refine CodeJ.view (View.nilRow 47 2) ?_
  refine code_loop (fun m σ' I' δ' => ∃ (k : Nat) (A : Option Addr) (c' : Nat) (ys : List Value), m = c.length - k ∧ k ≤ c.length ∧ σ' = [(3, .slice A (2 * k) c'), (6, .slice ad c.length c0), (7, .int .i64 c.length), (8, .int .i64 k)] ∧ I = I' ∧ δ' = [.row (.slice A (2 * k) c') 47 2 (2 * k) ys] ∧ RowE TermE I ys (sidesL (c.take k))) c.length [(3, .slice none (2 * 0) 0), (6, .slice ad c.length c0), (7, .int .i64 c.length), (8, .int .i64 (0 : Nat))] ⟨0, none, 0, [], rfl, Nat.zero_le _, rfl, rfl, rfl, rfl⟩ ⟨rfl, rfl, rfl, rfl, trivial⟩ ?_
  rintro m _ _ _ ⟨k, A, c', ys, rfl, hk, rfl, rfl, rfl, hys⟩
  refine code_seq ?_
  refine code_region ?_
  refine op_v (v_cmp rfl rfl rfl) rfl ?_
  refine ops_nil ?_
  refine post_next ?_
  refine code_seq ?_
  refine code_cond rfl (fun hc0 => ?_) (fun hc0 => ?_)
  · have hlt : k < c.length := by simpa using hc0
    obtain ⟨vs, ⟨la, lc, ra, rc, rfl, hl, hr⟩, hat⟩ := hrow.cellsAt hcells hlt
    have hs1 := hat.isSome
    refine code_skip ?_
    refine post_next ?_
    refine code_seq ?_
    refine code_block ?_
    refine code_seq ?_
    refine code_region ?_
    refine op_v (v_indexA Try.underlying26 sz49 rfl rfl) rfl ?_
    refine op_v (v_loadI0 ty49 (hat) rfl rfl rfl) rfl ?_
    refine o_alloc z49 rfl rfl (fun b5 => ?_)
    refine o_store ty49 rfl rfl rfl rfl rfl (by repeat (first | exact Swap.here | apply Swap.there)) rfl ?_
    refine ops_nil ?_
    refine post_next ?_
    refine code_region ?_
    refine op_v (v_move rfl) rfl ?_
    refine op_v (v_fieldB 1 Try.underlying49 rfl rfl fz47 rfl) rfl ?_
    refine op_v (v_loadA ty47 rfl rfl) rfl ?_
    refine op_v (v_fieldB 3 Try.underlying49 rfl rfl fz47 rfl) rfl ?_
    refine op_v (v_loadA ty47 rfl rfl) rfl ?_
    refine o_buildSlice (xs := [(Go.Operand.tmp 14), (Go.Operand.tmp 16)]) Try.underlying45 bs47 rfl rfl rfl rfl rfl (fun b17 => ?_)
    refine o_append Try.underlying45 bs47 rfl rfl rfl (fun v' => by repeat (first | exact Swap.here | apply Swap.there)) (Src.ofRow (by repeat (first | exact Has.here | apply Has.there)) rfl) (by first | rfl | omega | simp) (by simp [cat, cellsL, Value.oneCell']) (by omega) (by omega) (fun a18 c18 => ?_)
    refine op_v (v_assign rfl) rfl ?_
    refine ops_nil ?_
    refine post_out ?_
    refine post_next ?_
    refine code_region ?_
    refine op_v (v_addb rfl rfl rfl (by omega)) rfl ?_
    refine op_v (v_move rfl) rfl ?_
    refine ops_nil ?_
    refine PostJ.view (View.drop Del.here) ?_
    refine PostJ.view (View.drop Del.here) ?_
    refine post_again (c.length - (k + 1)) [(3, .slice a18 (2 * (k + 1)) c18), (6, .slice ad c.length c0), (7, .int .i64 c.length), (8, .int .i64 (k + 1 : Nat))] (by omega) ⟨k + 1, a18, c18, ys ++ [.int .i64 c[k].l.head, .slice la c[k].l.args.length lc, .int .i64 c[k].r.head, .slice ra c[k].r.args.length rc], rfl, hlt, rfl, rfl, ?_, ?_⟩ ⟨rfl, rfl, rfl, rfl, trivial⟩
    · simp [cat, cellsL]; omega
    · rw [sidesL_take c k hlt]
      exact hys.app ⟨[.int .i64 c[k].l.head, .slice la c[k].l.args.length lc], [.int .i64 c[k].r.head, .slice ra c[k].r.args.length rc], rfl, ⟨la, lc, rfl, hl⟩, RowE.single ⟨ra, rc, rfl, hr⟩⟩
  · have hge : k = c.length := by simp at hc0; omega
    subst hge
    rw [List.take_length] at hys
    refine code_exit ?_
    refine post_exit_then ?_
    refine post_exit_then ?_
    refine post_exit ?_
    refine post_next ?_
    refine code_seq ?_
    refine code_region ?_
    refine OpsJ.freezeRow Del.here ?_
    rintro I20 a20 c20 hI20 hq hc20 hl20 hcells20
    cases hq
    refine op_v (v_move rfl) rfl ?_
    refine op_v (v_assign rfl) rfl ?_
    refine ops_nil ?_
    refine post_next ?_
    refine code_ret ?_
    refine post_ret (rs := [.tmp 2]) rfl (List.Perm.refl _) (.cons (.tmp rfl) .nil) (List.nil_sublist _) ?_
    refine ⟨?_, rfl⟩
    have h2 := sidesL_len c
    have := RowE.repS (c := c') (hys.mono hI20) hcells20 (by omega) (by omega)
    rw [h2] at this; exact this
def chkLs (gs : List Sy) : List Li → Int
  | [] => 0
  | x :: r => if litG gs x ≠ 0 then litG gs x else chkLs gs r
def chkC (gs : List Sy) (c : List Li) : Int := if chkG gs ≠ 0 then chkG gs else if 32 < c.length then 2 else chkLs gs c
theorem chkLs_ok {gs : List Sy} : ∀ {c : List Li}, chkLs gs c = 0 ↔ ∀ x ∈ c, litG gs x = 0
  | [] => by simp [chkLs]
  | x :: r => by
    have ih := chkLs_ok (gs := gs) (c := r)
    simp only [chkLs]
    by_cases h : litG gs x ≠ 0
    · rw [if_pos h]; exact ⟨fun q => absurd q h, fun q => absurd (q x (List.mem_cons_self ..)) h⟩
    · rw [if_neg h, ih]
      exact ⟨fun q y hy => by rcases List.mem_cons.1 hy with rfl | hy; exact Classical.not_not.1 h; exact q y hy, fun q y hy => q y (List.mem_cons_of_mem _ hy)⟩
end Go.Proofs.Ytdbadicpbmndbaa
/- Variables as they come: plainly, and walks: the renamer, rows and clauses of other variables, a clause's variables. -/
set_option linter.unusedVariables false
set_option linter.unusedSimpArgs false
set_option linter.unnecessarySimpa false
/- short -/
namespace Go.Proofs.Ytdbadicpbmndbaa
open Go Lg

/-! ### plain -/
def numOf : List Int → Int → Nat
  | [], _ => 0
  | x :: r, v => if x = v then 0 else numOf r v + 1
def addN (ns : List Int) (v : Int) : List Int := if v ∈ ns then ns else ns ++ [v]
theorem numOf_le : ∀ (ns : List Int) (v : Int), numOf ns v ≤ ns.length
  | [], _ => Nat.le_refl _
  | x :: r, v => by simp only [numOf]; split; omega; have := numOf_le r v; simp only [List.length_cons]; omega
theorem numOf_lt : ∀ {ns : List Int} {v : Int}, v ∈ ns → numOf ns v < ns.length
  | x :: r, v, h => by
    simp only [numOf]
    by_cases e : x = v
    · rw [if_pos e]; simp
    · rw [if_neg e]
      have := numOf_lt (List.mem_of_ne_of_mem (fun q => e q.symm) h)
      simp only [List.length_cons]; omega
theorem numOf_app : ∀ {ns : List Int} {v : Int} (ms : List Int), v ∈ ns → numOf (ns ++ ms) v = numOf ns v
  | x :: r, v, ms, h => by
    simp only [numOf, List.cons_append]
    by_cases e : x = v
    · rw [if_pos e, if_pos e]
    · rw [if_neg e, if_neg e, numOf_app ms (List.mem_of_ne_of_mem (fun q => e q.symm) h)]
theorem numOf_new : ∀ {ns : List Int} {v : Int}, v ∉ ns → numOf (ns ++ [v]) v = ns.length
  | [], v, _ => by simp [numOf]
  | x :: r, v, h => by
    simp only [numOf, List.cons_append]
    rw [if_neg (fun e => h (by simp [e])), numOf_new (fun q => h (List.mem_cons_of_mem _ q))]; rfl
theorem addN_mem (ns : List Int) (v : Int) : v ∈ addN ns v := by unfold addN; split; assumption; simp
theorem addN_pre (ns : List Int) (v : Int) : ∃ ms, addN ns v = ns ++ ms := by unfold addN; split; exact ⟨[], by simp⟩; exact ⟨_, rfl⟩
theorem addN_len (ns : List Int) (v : Int) : (addN ns v).length ≤ ns.length + 1 := by unfold addN; split <;> simp
mutual
def renT : List Int → T → T × List Int
  | ns, .mk h ts => if h < 0 then (.mk (-1 - (numOf (addN ns (-1 - h)) (-1 - h) : Nat)) [], addN ns (-1 - h)) else (.mk h (renL ns ts).1, (renL ns ts).2)
def renL : List Int → List T → List T × List Int
  | ns, [] => ([], ns)
  | ns, t :: r => ((renT ns t).1 :: (renL (renT ns t).2 r).1, (renL (renT ns t).2 r).2)
end
theorem renL_app : ∀ (a b : List T) (ns : List Int), renL ns (a ++ b) = ((renL ns a).1 ++ (renL (renL ns a).2 b).1, (renL (renL ns a).2 b).2)
  | [], b, ns => by simp [renL]
  | t :: r, b, ns => by simp only [List.cons_append, renL, renL_app r b]
theorem renL_one (ns : List Int) (t : T) : renL ns [t] = ([(renT ns t).1], (renT ns t).2) := by simp [renL]
theorem renL_take (ns : List Int) (ts : List T) (k : Nat) (h : k < ts.length) : renL ns (ts.take (k + 1)) = ((renL ns (ts.take k)).1 ++ [(renT (renL ns (ts.take k)).2 ts[k]).1], (renT (renL ns (ts.take k)).2 ts[k]).2) := by
  rw [List.take_succ_eq_append_getElem h, renL_app, renL_one]
theorem renL_len : ∀ (ns : List Int) (ts : List T), (renL ns ts).1.length = ts.length
  | _, [] => by simp [renL]
  | ns, t :: r => by simp [renL, renL_len _ r]
mutual
theorem renT_grow : ∀ (t : T) (ns : List Int), (renT ns t).2.length ≤ ns.length + t.size
  | .mk h ts, ns => by
    simp only [renT, T.size]
    split
    · have := addN_len ns (-1 - h); simp only; omega
    · have := renL_grow ts ns; simp only; omega
theorem renL_grow : ∀ (ts : List T) (ns : List Int), (renL ns ts).2.length ≤ ns.length + sizeL ts
  | [], ns => by simp [renL, sizeL]
  | t :: r, ns => by
    have h1 := renT_grow t ns
    have h2 := renL_grow r (renT ns t).2
    simp only [renL, sizeL]; omega
end
/-- a map of numbers -/
def MN (mp : Mp) (ns : List Int) : Prop := mp.length = ns.length ∧ ∀ v, mget mp v = if v ∈ ns then some (.int .i64 (numOf ns v : Nat)) else none
theorem MN.nil : MN [] [] := ⟨rfl, fun v => by simp [mget]⟩
theorem MN.add {mp : Mp} {ns : List Int} {v : Int} (h : MN mp ns) (hv : v ∉ ns) : MN (mput mp v (.int .i64 ns.length)) (addN ns v) := by
  have hn : mget mp v = none := by rw [h.2, if_neg hv]
  have e : addN ns v = ns ++ [v] := by unfold addN; rw [if_neg hv]
  refine ⟨?_, fun u => ?_⟩
  · have := congrArg List.length (mput_keys mp v (.int .i64 ns.length))
    rw [if_pos hn] at this
    simp only [List.length_map, List.length_append, List.length_cons, List.length_nil] at this
    rw [this, e, h.1]; simp
  · rw [mget_mput, e]
    by_cases q : v = u
    · subst q; rw [if_pos rfl, if_pos (by simp), numOf_new hv]
    · rw [if_neg q, h.2]
      by_cases m : u ∈ ns
      · rw [if_pos m, if_pos (by simp [m]), numOf_app _ m]
      · rw [if_neg m, if_neg (by simp [m]; exact fun e => q e.symm)]
/-! ### walks -/
abbrev nmE (cb m : Nat) (mp : Mp) : List Ent := [.box cb 139 [.map (some m)], .map m mp]
theorem Norm1_does {I : Imm} {cb m : Nat} {mp : Mp} {ns : List Int} {v : Int} (hm : MN mp ns) (hb : ns.length ≤ 1000000) :
    Does Try.prog 122 [.int .i64 v, .pointer (some ⟨cb, 0, none⟩)] I (nmE cb m mp) (fun r I' δ' => r = .int .i64 (numOf (addN ns v) v : Nat) ∧ ∃ mp', MN mp' (addN ns v) ∧ δ' = nmE cb m mp') := by
  refine Does.intro Try.func122 rfl Try.ntmps122 rfl fun w0 => ?_
  refine code_seq ?_
  refine code_region ?_
  refine op_v (v_assign rfl) rfl ?_
  refine ops_nil ?_
  refine post_next ?_
  refine code_seq ?_
  refine code_region ?_
  refine op_v (v_loadA ty139 rfl rfl) rfl ?_
  refine op_v (v_move rfl) rfl ?_
  by_cases hv : v ∈ ns
  · have hg := hm.2 v
    rw [if_pos hv] at hg
    have he : addN ns v = ns := by unfold addN; rw [if_pos hv]
    refine op_v (v_mlook2 (v := .int .i64 (numOf ns v : Nat)) (g := true) Try.underlying139 Try.underlying3 z3 rfl rfl (Has.there Has.here) (by rw [hg]; rfl) (by rw [hg]; rfl)) rfl ?_
    refine op_v (v_move rfl) rfl ?_
    refine op_v (v_extract rfl rfl) rfl ?_
    refine op_v (v_extract rfl rfl) rfl ?_
    refine op_v (v_assign rfl) rfl ?_
    refine op_v (v_assign rfl) rfl ?_
    refine ops_nil ?_
    refine post_next ?_
    refine code_seq ?_
    refine code_seq ?_
    refine code_region ?_
    refine op_v (v_move rfl) rfl ?_
    refine op_v (v_not rfl) rfl ?_
    refine ops_nil ?_
    refine post_next ?_
    refine code_cond_f rfl ?_
    refine code_skip ?_
    refine post_next ?_
    refine code_seq ?_
    refine code_region ?_
    refine op_v (v_move rfl) rfl ?_
    refine op_v (v_assign rfl) rfl ?_
    refine ops_nil ?_
    refine post_next ?_
    refine code_ret ?_
    refine post_ret (rs := [.tmp 3]) rfl (List.Perm.refl _) (.cons (.tmp rfl) .nil) (List.Sublist.refl _) ?_
    exact ⟨by rw [he]; rfl, mp, by rw [he]; exact hm, rfl⟩
  · have hg := hm.2 v
    rw [if_neg hv] at hg
    have he : addN ns v = ns ++ [v] := by unfold addN; rw [if_neg hv]
    refine op_v (v_mlook2 (v := .int .i64 0) (g := false) Try.underlying139 Try.underlying3 z3 rfl rfl (Has.there Has.here) (by rw [hg]; rfl) (by rw [hg]; rfl)) rfl ?_
    refine op_v (v_move rfl) rfl ?_
    refine op_v (v_extract rfl rfl) rfl ?_
    refine op_v (v_extract rfl rfl) rfl ?_
    refine op_v (v_assign rfl) rfl ?_
    refine op_v (v_assign rfl) rfl ?_
    refine ops_nil ?_
    refine post_next ?_
    refine code_seq ?_
    refine code_seq ?_
    refine code_region ?_
    refine op_v (v_move rfl) rfl ?_
    refine op_v (v_not rfl) rfl ?_
    refine ops_nil ?_
    refine post_next ?_
    refine code_cond_t rfl ?_
    refine code_seq ?_
    refine code_region ?_
    refine op_v (v_loadA ty139 rfl rfl) rfl ?_
    refine op_v (v_mlen Try.underlying139 rfl (Has.there Has.here)) rfl ?_
    rw [hm.1]
    refine op_v (v_assign rfl) rfl ?_
    refine ops_nil ?_
    refine post_next ?_
    refine code_region ?_
    refine op_v (v_loadA ty139 rfl rfl) rfl ?_
    refine op_v (v_move rfl) rfl ?_
    refine op_v (v_move rfl) rfl ?_
    refine o_mapUpdate Try.underlying139 Try.underlying3 rfl rfl rfl rfl (by repeat (first | exact Swap.here | apply Swap.there)) ?_
    refine ops_nil ?_
    refine post_next ?_
    refine code_seq ?_
    refine code_region ?_
    refine op_v (v_move rfl) rfl ?_
    refine op_v (v_assign rfl) rfl ?_
    refine ops_nil ?_
    refine post_next ?_
    refine code_ret ?_
    refine post_ret (rs := [.tmp 3]) rfl (List.Perm.refl _) (.cons (.tmp rfl) .nil) (List.Sublist.refl _) ?_
    exact ⟨by rw [he, numOf_new hv]; rfl, _, hm.add hv, rfl⟩
theorem ren_does {cb m : Nat} : ∀ (n : Nat) (t : T), t.size ≤ n → ∀ (I : Imm) (v : Value) (ns : List Int) (mp : Mp), RepT I v t → MN mp ns → ns.length + t.size ≤ 1000000 →
    Does Try.prog 123 [.agg #[.func (.func 122) #[] #[.pointer (some ⟨cb, 0, none⟩)]], v] I (nmE cb m mp) (fun r I' δ' => RepT I' r (renT ns t).1 ∧ ∃ mp', MN mp' (renT ns t).2 ∧ δ' = nmE cb m mp') := by
  intro n
  induction n with
  | zero => intro t ht; have := t.size_pos; omega
  | succ n ih =>
    intro t ht I v ns mp hv hmn hbd
    obtain ⟨h, ts⟩ := t
    obtain ⟨ad, c, ss, rfl, hr, hc, hb, hat, hsub⟩ := hv.elim
    have hsz : (T.mk h ts).size = 1 + sizeL ts := by simp [T.size]
    have hr0 := hr
    unfold InR at hr0
    refine Does.intro Try.func123 rfl Try.ntmps123 rfl fun w0 => ?_
    refine code_seq ?_
    refine code_region ?_
    refine o_box rfl rfl rfl (fun b2 => ?_)
    refine o_box rfl rfl rfl (fun b3 => ?_)
    refine o_alloc z47 rfl rfl (fun b4 => ?_)
    refine ops_nil ?_
    refine post_next ?_
    refine code_seq ?_
    refine code_seq ?_
    refine code_region ?_
    refine op_v (v_fieldB 0 Try.underlying47 rfl rfl fz3 rfl) rfl ?_
    refine op_v (v_loadA ty3 rfl rfl) rfl ?_
    by_cases hneg : h < 0
    · have hnl := numOf_le (addN ns (-1 - h)) (-1 - h)
      have hal := addN_len ns (-1 - h)
      have hre : renT ns (.mk h ts) = (.mk (-1 - (numOf (addN ns (-1 - h)) (-1 - h) : Nat)) [], addN ns (-1 - h)) := by simp only [renT]; rw [if_pos hneg]
      refine op_v (v_cmptA rfl rfl rfl) rfl ?_
      refine ops_nil ?_
      refine post_next ?_
      refine code_cond_t rfl ?_
      refine code_seq ?_
      refine code_region ?_
      refine op_v (v_fieldB 0 Try.underlying143 rfl rfl fz141 rfl) rfl ?_
      refine op_v (v_loadA ty141 rfl rfl) rfl ?_
      refine op_v (v_fieldB 0 Try.underlying47 rfl rfl fz3 rfl) rfl ?_
      refine op_v (v_loadA ty3 rfl rfl) rfl ?_
      refine op_v (v_subb rfl rfl rfl (by omega)) rfl ?_
      refine op_fcall rfl rfl rfl ((FDoes.ofFunc (args := [_]) (caps := [_]) pl122 (Norm1_does (v := -1 - h) hmn (by omega)))) (List.perm_append_comm (l₁ := [_, _, _])) ?_
      rintro v16 I16 _ hI16 ⟨rfl, mp16, hm16, rfl⟩
      refine OpsJ.view (View.perm (List.perm_append_comm (l₂ := [_, _, _]))) ?_
      refine op_v (v_subb (c := -1 - ((numOf (addN ns (-1 - h)) (-1 - h) : Nat) : Int)) rfl rfl rfl (by omega)) rfl ?_
      refine op_v (v_build bl47 rfl rfl) rfl ?_
      refine o_store ty47 rfl rfl rfl rfl rfl (by repeat (first | exact Swap.here | apply Swap.there)) rfl ?_
      refine ops_nil ?_
      refine post_next ?_
      refine code_ret ?_
      refine post_ret_then ?_
      refine post_ret (rs := [.cell 4 47]) rfl (List.Perm.refl _) (.cons (.cell rfl ty47 (by repeat (first | exact Has.here | apply Has.there)) rfl) .nil) (List.Sublist.cons _ (List.Sublist.cons _ (List.Sublist.cons _ (List.Sublist.refl _)))) ?_
      exact ⟨by rw [hre]; exact RepT.mk _ (.mk _ []) (by show InR (-1 - ((numOf (addN ns (-1 - h)) (-1 - h) : Nat) : Int)); unfold InR; omega) (RepS.nil _), mp16, by rw [hre]; exact hm16, rfl⟩
    · have hre : renT ns (.mk h ts) = (.mk h (renL ns ts).1, (renL ns ts).2) := by simp only [renT]; rw [if_neg hneg]
      refine op_v (v_cmpfA rfl rfl rfl) rfl ?_
      refine ops_nil ?_
      refine post_next ?_
      refine code_cond_f rfl ?_
      refine code_skip ?_
      refine post_next ?_
      refine code_seq ?_
      refine code_region ?_
      refine op_v (v_fieldB 0 Try.underlying47 rfl rfl fz3 rfl) rfl ?_
      refine op_v (v_loadA ty3 rfl rfl) rfl ?_
      refine op_v (v_build bl47 rfl rfl) rfl ?_
      refine o_alloc z47 rfl rfl (fun b5 => ?_)
      refine o_store ty47 rfl rfl rfl rfl rfl (by repeat (first | exact Swap.here | apply Swap.there)) rfl ?_
      refine ops_nil ?_
      refine post_next ?_
      refine code_seq ?_
      refine code_seq ?_
      refine code_region ?_
      refine op_v (v_fieldB 1 Try.underlying47 rfl rfl fz45 rfl) rfl ?_
      refine op_v (v_loadA ty45 rfl rfl) rfl ?_
      refine op_v (v_len Try.underlying45 rfl) rfl ?_
      refine op_v (v_move rfl) rfl ?_
      refine ops_nil ?_
      refine post_next ?_
      refine code_block ?_
      refine CodeJ.view (View.nilRow 47 2) ?_
      refine code_loop (fun mm σ' I' δ' => ∃ (k : Nat) (ar : Option Addr) (cr : Nat) (xs : List Value) (mq : Mp), mm = ts.length - k ∧ k ≤ ts.length ∧ σ' = [(2, .pointer (some ⟨b2, 0, none⟩)), (4, .pointer (some ⟨b4, 0, none⟩)), (5, .pointer (some ⟨b5, 0, none⟩)), (23, .slice ad ts.length c), (24, .int .i64 ts.length), (25, .int .i64 k)] ∧ I.le I' ∧ δ' = .row (.slice ar k cr) 47 2 k xs :: .box b5 47 [.int .i64 h, .slice ar k cr] :: .box b4 47 [.int .i64 0, .slice none 0 0] :: .box b3 47 [.int .i64 h, .slice ad ts.length c] :: .box b2 143 [.func (.func 122) #[] #[.pointer (some ⟨cb, 0, none⟩)]] :: nmE cb m mq ∧ RowT I' xs (renL ns (ts.take k)).1 ∧ MN mq (renL ns (ts.take k)).2) ts.length [(2, .pointer (some ⟨b2, 0, none⟩)), (4, .pointer (some ⟨b4, 0, none⟩)), (5, .pointer (some ⟨b5, 0, none⟩)), (23, .slice ad ts.length c), (24, .int .i64 ts.length), (25, .int .i64 (0 : Nat))] ⟨0, none, 0, [], mp, rfl, Nat.zero_le _, rfl, Imm.le_refl _, rfl, RowT.nil _, hmn⟩ ⟨rfl, rfl, rfl, rfl, rfl, rfl, trivial⟩ ?_
      rintro mm _ I1 _ ⟨k, ar, cr, xs, mq, rfl, hk, rfl, hI1, rfl, hp, hmq⟩
      have hgr := renL_grow (ts.take k) ns
      refine code_seq ?_
      refine code_region ?_
      refine op_v (v_cmp rfl rfl rfl) rfl ?_
      refine ops_nil ?_
      refine post_next ?_
      refine code_seq ?_
      refine code_cond rfl (fun hc1 => ?_) (fun hc1 => ?_)
      · have hlt : k < ts.length := by simpa using hc1
        have hs1 := (hat k hlt).isSome
        have hm1 := sizeL_mem ts k hlt
        have hst := sizeL_take ts k hlt
        have hsd : sizeL (ts.take (k + 1)) + sizeL (ts.drop (k + 1)) = sizeL ts := by rw [← sizeL_app, List.take_append_drop]
        have hrt := renL_take ns ts k hlt
        refine code_skip ?_
        refine post_next ?_
        refine code_seq ?_
        refine code_block ?_
        refine code_seq ?_
        refine code_region ?_
        refine op_v (v_indexA Try.underlying45 sz47 rfl rfl) rfl ?_
        refine op_v (v_loadI0 ty47 ((hat k hlt).mono hI1) rfl rfl rfl) rfl ?_
        refine o_alloc z47 rfl rfl (fun b7 => ?_)
        refine o_store ty47 rfl rfl rfl rfl rfl (by repeat (first | exact Swap.here | apply Swap.there)) rfl ?_
        refine ops_nil ?_
        refine post_next ?_
        refine code_draw (.fl 0 (.fl 1 (.fl 2 (.fl 3 (.ef 4 (.ef 5 (.ef 6 (.fl 7 (.ef 8 .done))))))))) (fun _ => [.box b7 47 [.int .i64 ts[k].head, .slice (ss k).1 ts[k].args.length (ss k).2], .box b5 47 [.int .i64 h, .slice ar k cr], .box b2 143 [.func (.func 122) #[] #[.pointer (some ⟨cb, 0, none⟩)]]]) mixed (by kernel_rfl) (by kernel_rfl) (fun _ => (List.Sublist.cons_cons _ (List.Sublist.cons _ (List.Sublist.cons_cons _ (List.Sublist.cons _ (List.Sublist.cons _ (List.Sublist.cons_cons _ (List.nil_sublist _)))))))) ?_
        refine e_fl rfl rfl (fun hs_ => PF.mk rfl (v_fieldB 1 Try.underlying47 rfl rfl fz45 rfl) hs_) ?_
        refine e_fl rfl rfl (fun hs_ => PF.mk rfl (v_loadA ty45 rfl rfl) hs_) ?_
        refine e_fl rfl rfl (fun hs_ => PF.mk rfl (v_loadA ty143 rfl rfl) hs_) ?_
        refine e_fl rfl rfl (fun hs_ => PF.mk rfl (v_loadA ty47 rfl rfl) hs_) ?_
        refine e_eff rfl (by intro cs b hc; cases hc) (by intro c hc; cases hc) ?_
        refine op_call pl123 rfl rfl ((ih ts[k] (by omega) _ _ _ _ ((hsub k hlt).mono hI1) hmq (by omega))) (List.perm_append_comm (l₁ := [_, _, _, _, _, _])) ?_
        rintro v33 I33 _ hI33 ⟨hv33, mq33, hmq33, rfl⟩
        obtain ⟨p33, q33, rfl, _⟩ := hv33.shape
        refine OpsJ.view (View.perm (List.perm_append_comm (l₂ := [_, _, _, _, _, _]))) ?_
        refine ops_nil ?_
        refine e_next rfl side_allA ?_
        refine e_eff rfl (by intro cs b hc; cases hc) (by intro c hc; cases hc) ?_
        refine o_buildSlice (xs := [(Go.Operand.tmp 33)]) Try.underlying45 bs47 rfl rfl rfl rfl rfl (fun b34 => ?_)
        refine ops_nil ?_
        refine e_next rfl side_allA ?_
        refine e_eff rfl (by intro cs b hc; cases hc) (by intro c hc; cases hc) ?_
        refine o_append Try.underlying45 bs47 rfl rfl rfl (fun v' => by repeat (first | exact Swap.here | apply Swap.there)) (Src.ofRow (by repeat (first | exact Has.here | apply Has.there)) rfl) (by first | rfl | omega | simp) (by simp [cat, cellsL, Value.oneCell']) (by omega) (by omega) (fun a35 c35 => ?_)
        refine ops_nil ?_
        refine e_next rfl side_allA ?_
        refine e_fl rfl rfl (fun hs_ => PF.mk rfl (v_fieldB 1 Try.underlying47 rfl rfl fz45 rfl) hs_) ?_
        refine e_eff rfl (by intro cs b hc; cases hc) (by intro c hc; cases hc) ?_
        refine o_store ty45 rfl rfl rfl rfl rfl (by repeat (first | exact Swap.here | apply Swap.there)) rfl ?_
        refine ops_nil ?_
        refine e_next_ (side_nil (by kernel_rfl)) ?_
        refine e_done ?_
        refine post_out ?_
        refine post_next ?_
        refine code_region ?_
        refine op_v (v_addb rfl rfl rfl (by omega)) rfl ?_
        refine op_v (v_move rfl) rfl ?_
        refine ops_nil ?_
        refine PostJ.view ((View.drop Del.here).trans (View.drop Del.here)) ?_
        refine post_again (ts.length - (k + 1)) [(2, .pointer (some ⟨b2, 0, none⟩)), (4, .pointer (some ⟨b4, 0, none⟩)), (5, .pointer (some ⟨b5, 0, none⟩)), (23, .slice ad ts.length c), (24, .int .i64 ts.length), (25, .int .i64 ((k + 1 : Nat) : Int))] (by omega) ⟨k + 1, a35, c35, xs ++ [.int .i64 (renT (renL ns (ts.take k)).2 ts[k]).1.head, .slice p33 (renT (renL ns (ts.take k)).2 ts[k]).1.args.length q33], mq33, rfl, hlt, rfl, Imm.leA, rfl, ?_, by rw [hrt]; exact hmq33⟩ ⟨rfl, rfl, rfl, rfl, rfl, rfl, trivial⟩
        rw [hrt]
        exact (hp.mono hI33).app (RowT.one hv33)
      · have hge : k = ts.length := by simp at hc1; omega
        subst hge
        rw [List.take_length] at hp hmq
        refine code_exit ?_
        refine post_exit_then ?_
        refine post_exit_then ?_
        refine post_exit ?_
        refine post_next ?_
        refine code_seq ?_
        refine code_region ?_
        refine OpsJ.freezeRow Del.here ?_
        rintro I38 ar2 cr2 hI38 hvr hcr hlr hcells
        cases hvr
        refine op_v (v_loadA ty47 rfl rfl) rfl ?_
        refine o_store ty47 rfl rfl rfl rfl rfl (by repeat (first | exact Swap.here | apply Swap.there)) rfl ?_
        refine ops_nil ?_
        refine post_next ?_
        refine code_ret ?_
        refine post_ret (rs := [.cell 4 47]) rfl (List.Perm.refl _) (.cons (.cell rfl ty47 (by repeat (first | exact Has.here | apply Has.there)) rfl) .nil) (List.Sublist.cons _ (List.Sublist.cons _ (List.Sublist.cons _ (List.Sublist.cons _ (List.Sublist.refl _))))) ?_
        exact ⟨by rw [hre]; have hl := renL_len ns ts; have := RowT.rep (h := h) hcells (hp.mono hI38) hr (by rw [hl]; exact hcr) (by rw [hl]; exact hb); rw [hl] at this; exact this, mq, by rw [hre]; exact hmq, rfl⟩
def badT (t : T) : Bool := decide (chkT t ≠ 0)
theorem mwrong_does {I : Imm} {v : Value} {ts : List T} (hv : RepS I v ts) (hbig : ∀ t ∈ ts, t.size ≤ 1000000000) :
    Does Try.prog 121 [v] I [] (fun v I' δ' => v = .bool (ts.any badT) ∧ δ' = []) := by
  have h1 : ∀ J u t, I.le J → RepT J u t → t ∈ ts → FDoes Try.prog (.func (.func 157) #[] #[]) [u] J [] (fun v _ δ' => v = .bool (badT t) ∧ δ' = []) := fun J u t hJ hu ht => by
    obtain ⟨ua, uc, rfl, _⟩ := hu.shape
    refine Does.toF (args := [_]) (by kernel_rfl) ?_
    refine Does.intro Try.func157 rfl Try.ntmps157 rfl fun w0 => ?_
    refine code_seq ?_
    refine code_region ?_
    refine o_box rfl rfl rfl (fun b1 => ?_)
    refine op_v (v_assign rfl) rfl ?_
    refine ops_nil ?_
    refine post_next ?_
    refine code_seq ?_
    refine code_region ?_
    refine op_v (v_loadA ty47 rfl rfl) rfl ?_
    refine op_call pl105 rfl rfl ((TCheck_does hu (hbig t ht))) Parts.none ?_
    rintro v4 I4 _ hI4 ⟨rfl, rfl⟩
    refine op_v (v_cmp (z := badT t) rfl rfl rfl) rfl ?_
    refine op_v (v_assign rfl) rfl ?_
    refine ops_nil ?_
    refine post_next ?_
    refine code_ret ?_
    refine post_ret (rs := [.tmp 2]) rfl (List.Perm.refl _) (.cons (.tmp rfl) .nil) (List.nil_sublist _) ?_
    exact ⟨rfl, rfl⟩
  refine Does.intro Try.func121 rfl Try.ntmps121 rfl fun w0 => ?_
  refine code_seq ?_
  refine code_region ?_
  refine op_v (v_assign rfl) rfl ?_
  refine ops_nil ?_
  refine post_next ?_
  refine code_seq ?_
  refine code_region ?_
  refine op_v (v_move rfl) rfl ?_
  refine op_call pl103 rfl rfl ((ContT_does hv h1)) Parts.none ?_
  rintro v4 I4 _ hI4 ⟨rfl, rfl⟩
  refine op_v (v_assign rfl) rfl ?_
  refine ops_nil ?_
  refine post_next ?_
  refine code_ret ?_
  refine post_ret (rs := [.tmp 2]) rfl (List.Perm.refl _) (.cons (.tmp rfl) .nil) (List.nil_sublist _) ?_
  exact ⟨rfl, rfl⟩
theorem MNorm_does {I : Imm} {v : Value} {ts : List T} (hv : RepS I v ts) (hbig : sizeL ts ≤ 100000) :
    Does Try.prog 84 [v] I [] (fun v I' δ' => ((ts.any badT = true ∧ v = .tuple #[.slice none 0 0, .int .i64 1] ∧ δ' = []) ∨ (ts.any badT = false ∧ ∃ a c xs, v = .tuple #[.slice a ts.length c, .int .i64 0] ∧ RowT I' xs (renL [] ts).1 ∧ δ' = [tRow a c ts.length xs]))) := by
  have hsz := sizeL_getL hbig
  have hv0 := hv
  obtain ⟨ad, c, ss, ts, hc, hb, hat, hr, hsub0⟩ := hv
  have hsub : ∀ i (h : i < ts.length), RepT I (.agg #[.int .i64 ts[i].head, .slice (ss i).1 ts[i].args.length (ss i).2]) ts[i] := fun i hi => RepT.mk _ _ (hr i hi) (hsub0 i hi)
  refine Does.intro Try.func84 rfl Try.ntmps84 rfl fun w0 => ?_
  refine code_seq ?_
  refine code_region ?_
  refine op_v (v_assign rfl) rfl ?_
  refine op_v (v_assign rfl) rfl ?_
  refine ops_nil ?_
  refine post_next ?_
  refine code_seq ?_
  refine code_seq ?_
  refine code_region ?_
  refine op_v (v_move rfl) rfl ?_
  refine op_call pl121 rfl rfl ((mwrong_does hv0 (fun t ht => by have := hsz t ht; omega))) Parts.none ?_
  rintro v10 I10 _ hI10 ⟨rfl, rfl⟩
  refine ops_nil ?_
  refine post_next ?_
  refine code_cond rfl (fun hc0 => ?_) (fun hc0 => ?_)
  · refine code_seq ?_
    refine code_region ?_
    refine op_v (v_assign rfl) rfl ?_
    refine op_v (v_assign rfl) rfl ?_
    refine ops_nil ?_
    refine post_next ?_
    refine code_ret ?_
    refine post_ret_then ?_
    refine post_ret (rs := [.tmp 2, .tmp 3]) rfl (List.Perm.refl _) (.cons (.tmp rfl) (.cons (.tmp rfl) .nil)) (List.nil_sublist _) ?_
    exact .inl ⟨hc0, rfl, rfl⟩
  · refine code_skip ?_
    refine post_next ?_
    refine code_seq ?_
    refine code_region ?_
    refine o_makeMap rfl (fun b11 => ?_)
    refine o_alloc z139 rfl rfl (fun b4 => ?_)
    refine o_store ty139 rfl rfl rfl rfl rfl (by repeat (first | exact Swap.here | apply Swap.there)) rfl ?_
    refine ops_nil ?_
    refine post_next ?_
    refine code_seq ?_
    refine code_region ?_
    refine op_v (v_makeFunc rfl rfl) rfl ?_
    refine op_v (v_build bl143 rfl rfl) rfl ?_
    refine o_alloc z143 rfl rfl (fun b5 => ?_)
    refine o_store ty143 rfl rfl rfl rfl rfl (by repeat (first | exact Swap.here | apply Swap.there)) rfl ?_
    refine ops_nil ?_
    refine post_next ?_
    refine code_seq ?_
    refine code_region ?_
    refine op_v (v_assign rfl) rfl ?_
    refine ops_nil ?_
    refine post_next ?_
    refine code_seq ?_
    refine code_seq ?_
    refine code_region ?_
    refine op_v (v_move rfl) rfl ?_
    refine op_v (v_len Try.underlying45 rfl) rfl ?_
    refine op_v (v_move rfl) rfl ?_
    refine ops_nil ?_
    refine post_next ?_
    refine code_block ?_
    refine CodeJ.view (View.nilRow 47 2) ?_
    refine code_loop (fun mm σ' I' δ' => ∃ (k : Nat) (ar : Option Addr) (cr : Nat) (xs : List Value) (mq : Mp), mm = ts.length - k ∧ k ≤ ts.length ∧ σ' = [(5, .pointer (some ⟨b5, 0, none⟩)), (6, .slice ar k cr), (14, .slice ad ts.length c), (15, .int .i64 ts.length), (16, .int .i64 k)] ∧ I10.le I' ∧ δ' = .row (.slice ar k cr) 47 2 k xs :: .box b5 143 [.func (.func 122) #[] #[.pointer (some ⟨b4, 0, none⟩)]] :: nmE b4 b11 mq ∧ RowT I' xs (renL [] (ts.take k)).1 ∧ MN mq (renL [] (ts.take k)).2) ts.length [(5, .pointer (some ⟨b5, 0, none⟩)), (6, .slice none 0 0), (14, .slice ad ts.length c), (15, .int .i64 ts.length), (16, .int .i64 (0 : Nat))] ⟨0, none, 0, [], [], rfl, Nat.zero_le _, rfl, Imm.le_refl _, rfl, RowT.nil _, MN.nil⟩ ⟨rfl, rfl, rfl, rfl, rfl, trivial⟩ ?_
    rintro mm _ I1 _ ⟨k, ar, cr, xs, mq, rfl, hk, rfl, hI1, rfl, hp, hmq⟩
    have hgr := renL_grow (ts.take k) []
    refine code_seq ?_
    refine code_region ?_
    refine op_v (v_cmp rfl rfl rfl) rfl ?_
    refine ops_nil ?_
    refine post_next ?_
    refine code_seq ?_
    refine code_cond rfl (fun hc1 => ?_) (fun hc1 => ?_)
    · have hlt : k < ts.length := by simpa using hc1
      have hs1 := (hat k hlt).isSome
      have hm1 := sizeL_mem ts k hlt
      have hst := sizeL_take ts k hlt
      have hsd : sizeL (ts.take (k + 1)) + sizeL (ts.drop (k + 1)) = sizeL ts := by rw [← sizeL_app, List.take_append_drop]
      have hrt := renL_take [] ts k hlt
      rw [List.length_nil] at hgr
      refine code_skip ?_
      refine post_next ?_
      refine code_seq ?_
      refine code_block ?_
      refine code_seq ?_
      refine code_region ?_
      refine op_v (v_indexA Try.underlying45 sz47 rfl rfl) rfl ?_
      refine op_v (v_loadI0 ty47 ((hat k hlt).mono Imm.leA) rfl rfl rfl) rfl ?_
      refine o_alloc z47 rfl rfl (fun b8 => ?_)
      refine o_store ty47 rfl rfl rfl rfl rfl (by repeat (first | exact Swap.here | apply Swap.there)) rfl ?_
      refine ops_nil ?_
      refine post_next ?_
      refine code_region ?_
      refine op_v (v_move rfl) rfl ?_
      refine op_v (v_loadA ty143 rfl rfl) rfl ?_
      refine op_v (v_loadA ty47 rfl rfl) rfl ?_
      refine op_call pl123 rfl rfl ((ren_does _ _ (Nat.le_refl _) _ _ _ _ ((hsub k hlt).mono Imm.leA) hmq (by omega))) (List.perm_append_comm (l₁ := [_, _, _])) ?_
      rintro v23 I23 _ hI23 ⟨hv23, mq23, hmq23, rfl⟩
      obtain ⟨p23, q23, rfl, _⟩ := hv23.shape
      refine OpsJ.view (View.perm (List.perm_append_comm (l₂ := [_, _, _]))) ?_
      refine o_buildSlice (xs := [(Go.Operand.tmp 23)]) Try.underlying45 bs47 rfl rfl rfl rfl rfl (fun b24 => ?_)
      refine o_append Try.underlying45 bs47 rfl rfl rfl (fun v' => by repeat (first | exact Swap.here | apply Swap.there)) (Src.ofRow (by repeat (first | exact Has.here | apply Has.there)) rfl) (by first | rfl | omega | simp) (by simp [cat, cellsL, Value.oneCell']) (by omega) (by omega) (fun a25 c25 => ?_)
      refine op_v (v_assign rfl) rfl ?_
      refine ops_nil ?_
      refine post_out ?_
      refine post_next ?_
      refine code_region ?_
      refine op_v (v_addb rfl rfl rfl (by omega)) rfl ?_
      refine op_v (v_move rfl) rfl ?_
      refine ops_nil ?_
      refine PostJ.view ((View.drop Del.here).trans (View.drop Del.here)) ?_
      refine post_again (ts.length - (k + 1)) [(5, .pointer (some ⟨b5, 0, none⟩)), (6, .slice a25 (k + 1) c25), (14, .slice ad ts.length c), (15, .int .i64 ts.length), (16, .int .i64 ((k + 1 : Nat) : Int))] (by omega) ⟨k + 1, a25, c25, xs ++ [.int .i64 (renT (renL [] (ts.take k)).2 ts[k]).1.head, .slice p23 (renT (renL [] (ts.take k)).2 ts[k]).1.args.length q23], mq23, rfl, hlt, rfl, Imm.leA, rfl, ?_, by rw [hrt]; exact hmq23⟩ ⟨rfl, rfl, rfl, rfl, rfl, trivial⟩
      rw [hrt]
      exact (hp.mono hI23).app (RowT.one hv23)
    · have hge : k = ts.length := by simp at hc1; omega
      subst hge
      rw [List.take_length] at hp hmq
      refine code_exit ?_
      refine post_exit_then ?_
      refine post_exit_then ?_
      refine post_exit ?_
      refine post_next ?_
      refine code_seq ?_
      refine code_region ?_
      refine op_v (v_move rfl) rfl ?_
      refine op_v (v_assign rfl) rfl ?_
      refine op_v (v_assign rfl) rfl ?_
      refine ops_nil ?_
      refine post_next ?_
      refine code_ret ?_
      refine post_ret (rs := [.tmp 2, .tmp 3]) rfl (List.Perm.refl _) (.cons (.tmp rfl) (.cons (.tmp rfl) .nil)) (List.Sublist.cons_cons _ (List.nil_sublist _)) ?_
      exact .inr ⟨hc0, _, _, _, rfl, hp, rfl⟩
def ofL : List Li → List T → List Li
  | x :: r, a :: b :: s => ⟨x.neg, a, b⟩ :: ofL r s
  | _, _ => []
theorem ofL_len : ∀ (c : List Li) (ss : List T), ss.length = 2 * c.length → (ofL c ss).length = c.length
  | [], ss, h => by cases ss <;> rfl
  | x :: r, [], h => by simp at h
  | x :: r, [a], h => by simp at h; omega
  | x :: r, a :: b :: s, h => by simp only [ofL, List.length_cons]; rw [ofL_len r s (by simp at h; omega)]
theorem ofL_take : ∀ (c : List Li) (ss : List T) (k : Nat) (hk : k < c.length) (h : ss.length = 2 * c.length), ofL (c.take (k + 1)) ss = ofL (c.take k) ss ++ [⟨c[k].neg, ss[2 * k], ss[2 * k + 1]⟩]
  | x :: r, a :: b :: s, 0, hk, h => by
    show ofL (x :: r.take 0) (a :: b :: s) = ofL [] (a :: b :: s) ++ _
    simp [ofL]
  | x :: r, a :: b :: s, k + 1, hk, h => by
    have ih := ofL_take r s k (by simpa using hk) (by simp at h; omega)
    show ofL (x :: r.take (k + 1)) (a :: b :: s) = ofL (x :: r.take k) (a :: b :: s) ++ _
    simp only [ofL, ih, List.cons_append]
    congr 1
  | [], _, k, hk, h => by simp at hk
  | x :: r, [], k, hk, h => by simp at h
  | x :: r, [a], k, hk, h => by simp at h; omega
theorem Cof_does {I : Imm} {v vs : Value} {c : List Li} {ts : List T} (hv : RepC I v c) (hs : RepS I vs ts) (hl2 : ts.length = 2 * c.length) :
    Does Try.prog 86 [v, vs] I [] (fun v' I' δ' => RepC I' v' (ofL c ts) ∧ δ' = []) := by
  obtain ⟨ad, c0, xs, rfl, hc, hb, hcells, hrow⟩ := hv
  obtain ⟨sd, sc, ss, ts, hc2, hb2, hat2, hr2, hsub0⟩ := hs
  have hsub : ∀ i (h : i < ts.length), RepT I (.agg #[.int .i64 ts[i].head, .slice (ss i).1 ts[i].args.length (ss i).2]) ts[i] := fun i hi => RepT.mk _ _ (hr2 i hi) (hsub0 i hi)
  refine Does.intro Try.func86 rfl Try.ntmps86 rfl fun w0 => ?_
  refine code_seq ?_
  refine code_region ?_
  refine op_v (v_assign rfl) rfl ?_
  refine ops_nil ?_
  refine post_next ?_
  refine code_seq ?_
  refine code_region ?_
  refine op_v (v_assign rfl) rfl ?_
  refine ops_nil ?_
  refine post_next ?_
  refine code_seq ?_
  refine code_seq ?_
  refine code_region ?_
  refine op_v (v_move rfl) rfl ?_
  refine op_v (v_len Try.underlying26 rfl) rfl ?_
  refine op_v (v_move rfl) rfl ?_
  refine ops_nil ?_
  refine post_next ?_
  refine code_block ?_
  refine CodeJ.view (View.nilRow 49 5) ?_
  refine code_loop (fun m σ' I' δ' => ∃ (k : Nat) (A : Option Addr) (c' : Nat) (ys : List Value), m = c.length - k ∧ k ≤ c.length ∧ σ' = [(1, .slice sd ts.length sc), (5, .slice A k c'), (8, .slice ad c.length c0), (9, .int .i64 c.length), (10, .int .i64 k)] ∧ I = I' ∧ δ' = [cRow A c' k ys] ∧ RowE LitE I ys (ofL (c.take k) ts)) c.length [(1, .slice sd ts.length sc), (5, .slice none 0 0), (8, .slice ad c.length c0), (9, .int .i64 c.length), (10, .int .i64 (0 : Nat))] ⟨0, none, 0, [], rfl, Nat.zero_le _, rfl, rfl, rfl, rfl⟩ ⟨rfl, rfl, rfl, rfl, rfl, trivial⟩ ?_
  rintro m _ _ _ ⟨k, A, c', ys, rfl, hk, rfl, rfl, rfl, hys⟩
  refine code_seq ?_
  refine code_region ?_
  refine op_v (v_cmp rfl rfl rfl) rfl ?_
  refine ops_nil ?_
  refine post_next ?_
  refine code_seq ?_
  refine code_cond rfl (fun hc0 => ?_) (fun hc0 => ?_)
  · have hlt : k < c.length := by simpa using hc0
    obtain ⟨vs, ⟨la, lc, ra, rc, rfl, hl, hr⟩, hat⟩ := hrow.cellsAt hcells hlt
    have hs1 := hat.isSome
    have ha1 := hat2 (2 * k) (by omega)
    have ha2 := hat2 (2 * k + 1) (by omega)
    have hs2 := ha1.isSome
    refine code_skip ?_
    refine post_next ?_
    refine code_seq ?_
    refine code_block ?_
    refine code_seq ?_
    refine code_region ?_
    refine op_v (v_move rfl) rfl ?_
    refine op_v (v_indexA Try.underlying26 sz49 rfl rfl) rfl ?_
    refine op_v (v_loadI0 ty49 (hat) rfl rfl rfl) rfl ?_
    refine o_alloc z49 rfl rfl (fun b7 => ?_)
    refine op_v (v_assign rfl) rfl ?_
    refine o_store ty49 rfl rfl rfl rfl rfl (by repeat (first | exact Swap.here | apply Swap.there)) rfl ?_
    refine ops_nil ?_
    refine post_next ?_
    refine code_draw (.fl 0 (.fl 1 (.fl 2 (.fl 3 (.fl 4 (.fl 5 (.fl 6 (.fl 7 (.fl 8 (.fl 9 (.fl 10 (.fl 11 (.fl 12 (.fl 13 (.fl 14 (.ef 15 (.ef 16 (.ef 17 .done)))))))))))))))))) (fun _ => [.box b7 49 (liC c[k] la lc ra rc)]) mixed (by kernel_rfl) (by kernel_rfl) (fun _ => (List.Sublist.cons_cons _ (List.nil_sublist _))) ?_
    refine e_fl rfl rfl (fun hs_ => PF.mk rfl (v_move rfl) hs_) ?_
    refine e_fl rfl rfl (fun hs_ => PF.mk rfl (v_fieldB 0 Try.underlying49 rfl rfl fz4 rfl) hs_) ?_
    refine e_fl rfl rfl (fun hs_ => PF.mk rfl (v_loadA ty4 rfl rfl) hs_) ?_
    refine e_fl rfl rfl (fun hs_ => PF.mk rfl (v_move rfl) hs_) ?_
    refine e_fl rfl rfl (fun hs_ => PF.mk rfl (v_move rfl) hs_) ?_
    refine e_fl rfl rfl (fun hs_ => PF.mk rfl (v_mulb (c := ((2 * k : Nat) : Int)) rfl rfl (by omega) (by omega)) hs_) ?_
    refine e_fl rfl rfl (fun hs_ => PF.mk rfl (v_indexA Try.underlying45 sz47 rfl rfl) hs_) ?_
    refine e_fl rfl rfl (fun hs_ => PF.mk rfl (v_loadI0 ty47 (ha1) rfl rfl rfl) hs_) ?_
    refine e_fl rfl rfl (fun hs_ => PF.mk rfl (v_move rfl) hs_) ?_
    refine e_fl rfl rfl (fun hs_ => PF.mk rfl (v_move rfl) hs_) ?_
    refine e_fl rfl rfl (fun hs_ => PF.mk rfl (v_mulb (c := ((2 * k : Nat) : Int)) rfl rfl (by omega) (by omega)) hs_) ?_
    refine e_fl rfl rfl (fun hs_ => PF.mk rfl (v_addb (c := ((2 * k + 1 : Nat) : Int)) rfl rfl (by omega) (by omega)) hs_) ?_
    refine e_fl rfl rfl (fun hs_ => PF.mk rfl (v_indexA Try.underlying45 sz47 rfl rfl) hs_) ?_
    refine e_fl rfl rfl (fun hs_ => PF.mk rfl (v_loadI0 ty47 (ha2) rfl rfl rfl) hs_) ?_
    refine e_fl rfl rfl (fun hs_ => PF.mk rfl (v_build bl49 rfl rfl) hs_) ?_
    refine e_eff rfl (by intro cs b hc; cases hc) (by intro c hc; cases hc) ?_
    refine o_buildSlice (xs := [(Go.Operand.tmp 29)]) Try.underlying26 bs49 rfl rfl rfl rfl rfl (fun b30 => ?_)
    refine ops_nil ?_
    refine e_next rfl side_allA ?_
    refine e_eff rfl (by intro cs b hc; cases hc) (by intro c hc; cases hc) ?_
    refine o_append Try.underlying26 bs49 rfl rfl rfl (fun v' => by repeat (first | exact Swap.here | apply Swap.there)) (Src.ofRow (by repeat (first | exact Has.here | apply Has.there)) rfl) (by first | rfl | omega | simp) (by simp [cat, cellsL, Value.oneCell']) (by omega) (by omega) (fun a31 c31 => ?_)
    refine ops_nil ?_
    refine e_next rfl side_allA ?_
    refine e_eff rfl (by intro cs b hc; cases hc) (by intro c hc; cases hc) ?_
    refine op_v (v_assign rfl) rfl ?_
    refine ops_nil ?_
    refine e_next rfl (side_nil (by kernel_rfl)) ?_
    refine e_done ?_
    refine post_out ?_
    refine post_next ?_
    refine code_region ?_
    refine op_v (v_addb rfl rfl rfl (by omega)) rfl ?_
    refine op_v (v_move rfl) rfl ?_
    refine ops_nil ?_
    refine PostJ.view (View.drop Del.here) ?_
    refine PostJ.view (View.drop Del.here) ?_
    refine post_again (c.length - (k + 1)) [(1, .slice sd ts.length sc), (5, .slice a31 (k + 1) c31), (8, .slice ad c.length c0), (9, .int .i64 c.length), (10, .int .i64 (k + 1 : Nat))] (by omega) ⟨k + 1, a31, c31, ys ++ [.bool c[k].neg, .int .i64 ts[2 * k].head, .slice (ss (2 * k)).1 ts[2 * k].args.length (ss (2 * k)).2, .int .i64 ts[2 * k + 1].head, .slice (ss (2 * k + 1)).1 ts[2 * k + 1].args.length (ss (2 * k + 1)).2], rfl, hlt, rfl, rfl, ?_, ?_⟩ ⟨rfl, rfl, rfl, rfl, rfl, trivial⟩
    · simp [cat, cellsL]
    · rw [ofL_take c ts k hlt hl2]
      exact hys.app (RowE.single ⟨_, _, _, _, rfl, hsub _ _, hsub _ _⟩)
  · have hge : k = c.length := by simp at hc0; omega
    subst hge
    rw [List.take_length] at hys
    refine code_exit ?_
    refine post_exit_then ?_
    refine post_exit_then ?_
    refine post_exit ?_
    refine post_next ?_
    refine code_seq ?_
    refine code_region ?_
    refine OpsJ.freezeRow Del.here ?_
    rintro I33 a33 c33 hI33 hq hc33 hl33 hcells33
    cases hq
    refine op_v (v_move rfl) rfl ?_
    refine op_v (v_assign rfl) rfl ?_
    refine ops_nil ?_
    refine post_next ?_
    refine code_ret ?_
    refine post_ret (rs := [.tmp 4]) rfl (List.Perm.refl _) (.cons (.tmp rfl) .nil) (List.nil_sublist _) ?_
    refine ⟨?_, rfl⟩
    have h2 := ofL_len c ts hl2
    have : RepC I33 (.slice A (ofL c ts).length c') (ofL c ts) := ⟨A, c', ys, rfl, by omega, by omega, hcells33, hys.mono hI33⟩
    rw [h2] at this; exact this
def normC (c : List Li) : List Li := ofL c (renL [] (sidesL c)).1
theorem CNorm_does {I : Imm} {v : Value} {c : List Li} (hv : RepC I v c) (hbig : sizeL (sidesL c) ≤ 100000) :
    Does Try.prog 37 [v] I [] (fun v I' δ' => (((sidesL c).any badT = true ∧ v = .tuple #[.slice none 0 0, .int .i64 1]) ∨ ((sidesL c).any badT = false ∧ ∃ a k, v = .tuple #[.slice a c.length k, .int .i64 0] ∧ RepC I' (.slice a c.length k) (normC c))) ∧ δ' = []) := by
  have h2 := sidesL_len c
  refine Does.intro Try.func37 rfl Try.ntmps37 rfl fun w0 => ?_
  refine code_seq ?_
  refine code_region ?_
  refine op_v (v_assign rfl) rfl ?_
  refine op_v (v_assign rfl) rfl ?_
  refine ops_nil ?_
  refine post_next ?_
  refine code_seq ?_
  refine code_region ?_
  refine op_v (v_move rfl) rfl ?_
  refine op_call pl85 rfl rfl ((Cterms_does hv)) Parts.none ?_
  rintro v8 I8 _ hI8 ⟨hs8, rfl⟩
  refine op_call pl84 rfl rfl ((MNorm_does hs8 hbig)) Parts.none ?_
  rintro v9 I9 δ9 hI9 HR9
  refine op_v (v_move rfl) rfl ?_
  rcases HR9 with ⟨hbad, rfl, rfl⟩ | ⟨hgood, a9, c9, zs9, rfl, hz9, rfl⟩
  · refine op_v (v_extract rfl rfl) rfl ?_
    refine op_v (v_extract rfl rfl) rfl ?_
    refine op_v (v_assign rfl) rfl ?_
    refine op_v (v_assign rfl) rfl ?_
    refine ops_nil ?_
    refine post_next ?_
    refine code_seq ?_
    refine code_seq ?_
    refine code_region ?_
    refine op_v (v_move rfl) rfl ?_
    refine op_v (v_cmptA rfl rfl rfl) rfl ?_
    refine ops_nil ?_
    refine post_next ?_
    refine code_cond_t rfl ?_
    refine code_seq ?_
    refine code_region ?_
    refine op_v (v_move rfl) rfl ?_
    refine op_v (v_assign rfl) rfl ?_
    refine op_v (v_assign rfl) rfl ?_
    refine ops_nil ?_
    refine post_next ?_
    refine code_ret ?_
    refine post_ret_then ?_
    refine post_ret (rs := [.tmp 2, .tmp 3]) rfl (List.Perm.refl _) (.cons (.tmp rfl) (.cons (.tmp rfl) .nil)) (List.nil_sublist _) ?_
    exact ⟨.inl ⟨hbad, rfl⟩, rfl⟩
  · refine OpsJ.freezeRow Del.here ?_
    rintro I10 a10 c10 hI10 hq hc10 hl10 hcells10
    cases hq
    have hrl : (renL [] (sidesL c)).1.length = (sidesL c).length := renL_len _ _
    have hr9 : RepS I10 (.slice a9 (sidesL c).length c9) (renL [] (sidesL c)).1 := RowT.repS hrl.symm hcells10 (hz9.mono hI10) hc10 (by rw [h2]; have := hv.small; omega)
    refine op_v (v_extract rfl rfl) rfl ?_
    refine op_v (v_extract rfl rfl) rfl ?_
    refine op_v (v_assign rfl) rfl ?_
    refine op_v (v_assign rfl) rfl ?_
    refine ops_nil ?_
    refine post_next ?_
    refine code_seq ?_
    refine code_seq ?_
    refine code_region ?_
    refine op_v (v_move rfl) rfl ?_
    refine op_v (v_cmpfA rfl rfl rfl) rfl ?_
    refine ops_nil ?_
    refine post_next ?_
    refine code_cond_f rfl ?_
    refine code_skip ?_
    refine post_next ?_
    refine code_seq ?_
    refine code_region ?_
    refine op_v (v_move rfl) rfl ?_
    refine op_v (v_move rfl) rfl ?_
    refine op_call pl86 rfl rfl ((Cof_does (hv.mono Imm.leA) hr9 (by rw [renL_len]; exact h2))) Parts.none ?_
    rintro v17 I17 _ hI17 ⟨hr17, rfl⟩
    have hl17 : (normC c).length = c.length := ofL_len c _ (by rw [renL_len]; exact h2)
    obtain ⟨a17, c17, hsh⟩ := RepE.shape hr17
    rw [show (ofL c (renL [] (sidesL c)).1).length = c.length from hl17] at hsh
    subst hsh
    refine op_v (v_assign rfl) rfl ?_
    refine op_v (v_assign rfl) rfl ?_
    refine ops_nil ?_
    refine post_next ?_
    refine code_ret ?_
    refine post_ret (rs := [.tmp 2, .tmp 3]) rfl (List.Perm.refl _) (.cons (.tmp rfl) (.cons (.tmp rfl) .nil)) (List.nil_sublist _) ?_
    exact ⟨.inr ⟨hgood, a17, c17, rfl, hr17⟩, rfl⟩
/-! ### a clause's variables -/
def uniL (acc l : List Int) : List Int := l.foldl addN acc
theorem uniL_app (acc a b : List Int) : uniL acc (a ++ b) = uniL (uniL acc a) b := by simp [uniL]
theorem uniL_len (acc l : List Int) : (uniL acc l).length ≤ acc.length + l.length := by
  induction l generalizing acc with
  | nil => simp [uniL]
  | cons x r ih =>
    have h1 := addN_len acc x
    have h2 := ih (addN acc x)
    show (uniL (addN acc x) r).length ≤ _
    simp only [List.length_cons]; omega
theorem uniL_mem (acc l : List Int) (v : Int) : v ∈ uniL acc l ↔ v ∈ acc ∨ v ∈ l := by
  induction l generalizing acc with
  | nil => simp [uniL]
  | cons x r ih =>
    have h1 : v ∈ addN acc x ↔ v ∈ acc ∨ v = x := by
      unfold addN
      split
      · constructor
        · exact .inl
        · rintro (h | rfl); exact h; assumption
      · simp
    show v ∈ uniL (addN acc x) r ↔ _
    rw [ih, h1, List.mem_cons, or_assoc]
def varsGo (acc : List Int) (ts : List T) : List Int := ts.foldl (fun a t => uniL a (varsP (partsT 1 t))) acc
def varsC (c : List Li) : List Int := varsGo [] (sidesL c)
end Go.Proofs.Ytdbadicpbmndbaa
/- Walks: which clauses are wrong; one clause subsumes another one; variants. -/
set_option linter.unusedVariables false
set_option linter.unusedSimpArgs false
set_option linter.unnecessarySimpa false
/- short -/
namespace Go.Proofs.Ytdbadicpbmndbaa
open Go Lg

/-! ### plain -/
def badL (x : Li) : Bool := badT x.l || badT x.r
def wrE (c d : List Li) : Int := if 32 < c.length ∨ 32 < d.length then 2 else if (sidesL c).any badT = true ∨ (sidesL d).any badT = true then 1 else 0
theorem any_badL (c : List Li) : c.any badL = (sidesL c).any badT := by
  induction c with
  | nil => rfl
  | cons x r ih => show (badL x || r.any badL) = (badT x.l || (badT x.r || (sidesL r).any badT)); rw [ih]; unfold badL; rw [Bool.or_assoc]
theorem wrE_ok {c d : List Li} (h : wrE c d = 0) : c.length ≤ 32 ∧ d.length ≤ 32 ∧ (sidesL c).any badT = false ∧ (sidesL d).any badT = false := by
  unfold wrE at h
  split at h
  · cases h
  · rename_i h1
    split at h
    · cases h
    · rename_i h2
      refine ⟨by omega, by omega, ?_, ?_⟩
      · cases q : (sidesL c).any badT; rfl; exact absurd (.inl q) h2
      · cases q : (sidesL d).any badT; rfl; exact absurd (.inr q) h2
theorem wrE_zero {c d : List Li} (h1 : c.length ≤ 32) (h2 : d.length ≤ 32) (h3 : (sidesL c).any badT = false) (h4 : (sidesL d).any badT = false) : wrE c d = 0 := by
  unfold wrE; rw [if_neg (by omega), if_neg (by rw [h3, h4]; simp)]
theorem wrE_comm {c d : List Li} (h : wrE c d = 0) : wrE d c = 0 := by
  obtain ⟨h1, h2, h3, h4⟩ := wrE_ok h; exact wrE_zero h2 h1 h4 h3
def freeU (n : Nat) : List Bool := List.replicate n false
/-- a clause says more than another one -/
def Sub (c d : List Li) : Prop := ∃ θ, SubS θ d (freeU d.length) c
theorem SubB_Sub {c d : List Li} : SubB [] d (freeU d.length) c ↔ Sub c d := ⟨fun ⟨θ, _, h⟩ => ⟨θ, h⟩, fun ⟨θ, h⟩ => ⟨θ, Ext_nil θ, h⟩⟩
theorem count_set {us : List Bool} {k : Nat} (h : us[k]? = some false) : us.count false = (us.set k true).count false + 1 := by
  obtain ⟨hk, e⟩ := List.getElem?_eq_some_iff.1 h
  rw [List.count_set hk, e]
  have : 0 < us.count false := List.count_pos_iff.2 (e ▸ List.getElem_mem hk)
  simp; omega
theorem SubS_len {θ : Int → T} {d : List Li} : ∀ {c : List Li} {us : List Bool}, SubS θ d us c → c.length ≤ us.count false
  | [], us, _ => Nat.zero_le _
  | a :: r, us, h => by
    obtain ⟨k, hk, h1, _, _, h2⟩ := h
    have := SubS_len h2
    have := count_set h1
    simp only [List.length_cons]; omega
theorem Sub_len {c d : List Li} (h : Sub c d) : c.length ≤ d.length := by
  obtain ⟨θ, h⟩ := h
  have := SubS_len h
  unfold freeU at this
  rw [List.count_replicate] at this
  simpa using this
/-! ### walks -/
abbrev ccRow (g : Nat) (vc vd : Value) : Ent := .row (.slice (some ⟨g, 0, none⟩) 2 2) 26 1 2 [vc, vd]
theorem swrong_does {I : Imm} {g : Nat} {vc vd : Value} {c d : List Li} (hc : RepC I vc c) (hd : RepC I vd d) (hsc : SmC c) (hsd : SmC d) :
    Does Try.prog 55 [.slice (some ⟨g, 0, none⟩) 2 2] I [ccRow g vc vd] (fun v I' δ' => v = .int .i64 (wrE c d) ∧ δ' = [ccRow g vc vd]) := by
  have hbC := hc.small
  have hbD := hd.small
  have hpick : ∀ k : Nat, k < 2 → ∃ (y : List Li) (a : Option Addr) (n : Nat), [vc, vd][k]? = some (.slice a y.length n) ∧ RepC I (.slice a y.length n) y ∧ SmC y ∧ y.length ≤ 1954687338211 ∧ ((k = 0 ∧ y = c) ∨ (k = 1 ∧ y = d)) := fun k hk => by
    have hk01 : k = 0 ∨ k = 1 := by omega
    rcases hk01 with rfl | rfl
    · obtain ⟨a, n, hsh⟩ := RepE.shape hc
      exact ⟨c, a, n, by rw [hsh]; rfl, hsh ▸ hc, hsc, hbC, .inl ⟨rfl, rfl⟩⟩
    · obtain ⟨a, n, hsh⟩ := RepE.shape hd
      exact ⟨d, a, n, by rw [hsh]; rfl, hsh ▸ hd, hsd, hbD, .inr ⟨rfl, rfl⟩⟩
  have hgs : (some (⟨g, 0, none⟩ : Addr)).isSome = true := rfl
  have hodd : ∀ J u x, I.le J → LitE.R J x u → x.l.size ≤ 1000000000 → x.r.size ≤ 1000000000 → FDoes Try.prog (.func (.func 107) #[] #[]) [.agg u.toArray] J [] (fun v _ δ' => v = .bool (badL x) ∧ δ' = []) := fun J u x hJ hu hx1 hx2 => by
    obtain ⟨la, lc, ra, rc, rfl, hl, hr⟩ := hu
    refine Does.toF (args := [_]) (by kernel_rfl) ?_
    refine Does.intro Try.func107 rfl Try.ntmps107 rfl fun w0 => ?_
    refine code_seq ?_
    refine code_region ?_
    refine o_box rfl rfl rfl (fun b1 => ?_)
    refine op_v (v_assign rfl) rfl ?_
    refine ops_nil ?_
    refine post_next ?_
    refine code_seq ?_
    refine code_region ?_
    refine op_v (v_fieldB 1 Try.underlying49 rfl rfl fz47 rfl) rfl ?_
    refine op_v (v_loadA ty47 rfl rfl) rfl ?_
    refine op_call pl105 rfl rfl ((TCheck_does hl hx1)) Parts.none ?_
    rintro v5 I5 _ hI5 ⟨rfl, rfl⟩
    by_cases h6 : badT x.l = true
    · refine op_v (v_cmpt rfl rfl rfl (by unfold badT at h6; simpa using h6)) rfl ?_
      refine op_v (v_move rfl) rfl ?_
      refine op_skip rfl rfl (by simp [undef]) rfl ?_
      refine op_skip rfl rfl (by simp [undef]) rfl ?_
      refine op_skip rfl rfl (by simp [undef]) rfl ?_
      refine op_skip rfl rfl (by simp [undef]) rfl ?_
      refine op_v (v_pickt rfl rfl) rfl ?_
      refine op_v (v_assign rfl) rfl ?_
      refine ops_nil ?_
      refine post_next ?_
      refine code_ret ?_
      refine post_ret (rs := [.tmp 2]) rfl (List.Perm.refl _) (.cons (.tmp rfl) .nil) (List.nil_sublist _) ?_
      exact ⟨by unfold badL; rw [h6]; rfl, rfl⟩
    · have h6' : badT x.l = false := by simpa using h6
      refine op_v (v_cmpf rfl rfl rfl (by unfold badT at h6; simpa using h6)) rfl ?_
      refine op_v (v_move rfl) rfl ?_
      first
        | (refine op_want rfl rfl ?_
           refine op_v (v_fieldB 3 Try.underlying49 rfl rfl fz47 rfl) rfl ?_)
        | (refine op_skip rfl rfl (by simp [undef]) rfl ?_)
      refine op_want rfl rfl ?_
      refine op_v (v_loadA ty47 rfl rfl) rfl ?_
      refine op_want rfl rfl ?_
      refine op_call pl105 rfl rfl ((TCheck_does (hr.mono Imm.leA) hx2)) Parts.none ?_
      rintro v10 I10 _ hI10 ⟨rfl, rfl⟩
      refine op_want rfl rfl ?_
      refine op_v (v_cmp (z := badT x.r) rfl rfl rfl) rfl ?_
      refine op_v (v_pickf rfl rfl) rfl ?_
      refine op_v (v_assign rfl) rfl ?_
      refine ops_nil ?_
      refine post_next ?_
      refine code_ret ?_
      refine post_ret (rs := [.tmp 2]) rfl (List.Perm.refl _) (.cons (.tmp rfl) .nil) (List.nil_sublist _) ?_
      exact ⟨by unfold badL; rw [h6']; rfl, rfl⟩
  refine Does.intro Try.func55 rfl Try.ntmps55 rfl fun w0 => ?_
  refine code_seq ?_
  refine code_region ?_
  refine op_v (v_assign rfl) rfl ?_
  refine ops_nil ?_
  refine post_next ?_
  refine code_seq ?_
  refine code_seq ?_
  refine code_region ?_
  refine op_v (v_move rfl) rfl ?_
  refine op_v (v_len Try.underlying126 rfl) rfl ?_
  refine op_v (v_move rfl) rfl ?_
  refine ops_nil ?_
  refine post_next ?_
  refine code_block ?_
  refine code_loop (fun m σ' I' δ' => ∃ k : Nat, m = 2 - k ∧ k ≤ 2 ∧ σ' = [(0, .slice (some ⟨g, 0, none⟩) 2 2), (8, .slice (some ⟨g, 0, none⟩) 2 2), (9, .int .i64 (2 : Nat)), (10, .int .i64 k)] ∧ I.le I' ∧ δ' = [ccRow g vc vd] ∧ (0 < k → c.length ≤ 32) ∧ (1 < k → d.length ≤ 32)) 2 [(0, .slice (some ⟨g, 0, none⟩) 2 2), (8, .slice (some ⟨g, 0, none⟩) 2 2), (9, .int .i64 (2 : Nat)), (10, .int .i64 (0 : Nat))] ⟨0, rfl, by omega, rfl, Imm.le_refl _, rfl, fun h => by omega, fun h => by omega⟩ ⟨rfl, rfl, rfl, rfl, trivial⟩ ?_
  rintro m _ I0 _ ⟨k, rfl, hk, rfl, hI0, rfl, hn0, hn1⟩
  refine code_seq ?_
  refine code_region ?_
  refine op_v (v_cmp rfl rfl rfl) rfl ?_
  refine ops_nil ?_
  refine post_next ?_
  refine code_seq ?_
  refine code_cond rfl (fun hc0 => ?_) (fun hc0 => ?_)
  · have hlt : k < 2 := by have h := hc0; simp at h; omega
    obtain ⟨y, ya, yc, hat, hy, hys, hyb, hyy⟩ := hpick k hlt
    refine code_skip ?_
    refine post_next ?_
    refine code_seq ?_
    refine code_block ?_
    refine code_seq ?_
    refine code_region ?_
    refine op_v (v_indexA Try.underlying126 sz26 rfl rfl) rfl ?_
    refine op_v (v_loadRow ty26 rfl Has.here rfl (ld_at (by rw [Nat.mul_one]; exact hat))) rfl ?_
    refine op_v (v_assign rfl) rfl ?_
    refine ops_nil ?_
    refine post_next ?_
    refine code_seq ?_
    refine code_region ?_
    refine op_v (v_move rfl) rfl ?_
    refine op_v (v_len Try.underlying26 rfl) rfl ?_
    by_cases h16 : 32 < y.length
    · refine op_v (v_cmpt rfl rfl rfl (by omega)) rfl ?_
      refine ops_nil ?_
      refine post_next ?_
      refine code_cond_t rfl ?_
      refine code_seq ?_
      refine code_region ?_
      refine op_v (v_assign rfl) rfl ?_
      refine ops_nil ?_
      refine post_next ?_
      refine code_ret ?_
      refine post_ret_block ?_
      refine post_ret_then ?_
      refine post_ret_then ?_
      refine post_ret_block ?_
      refine post_ret_then ?_
      refine post_ret (rs := [.tmp 2]) rfl (List.Perm.refl _) (.cons (.tmp rfl) .nil) (List.Sublist.refl _) ?_
      exact ⟨by unfold wrE; rw [if_pos (by rcases hyy with ⟨_, rfl⟩ | ⟨_, rfl⟩; exact .inl h16; exact .inr h16)]; rfl, rfl⟩
    · refine op_v (v_cmpf rfl rfl rfl (by omega)) rfl ?_
      refine ops_nil ?_
      refine post_next ?_
      refine code_cond_f rfl ?_
      refine code_skip ?_
      refine post_out ?_
      refine post_next ?_
      refine code_region ?_
      refine op_v (v_addb rfl rfl rfl (by omega)) rfl ?_
      refine op_v (v_move rfl) rfl ?_
      refine ops_nil ?_
      refine post_again (2 - (k + 1)) [(0, .slice (some ⟨g, 0, none⟩) 2 2), (8, .slice (some ⟨g, 0, none⟩) 2 2), (9, .int .i64 (2 : Nat)), (10, .int .i64 (k + 1 : Nat))] (by omega) ⟨k + 1, rfl, by omega, rfl, Imm.leA, rfl, fun _ => by rcases hyy with ⟨_, rfl⟩ | ⟨_, rfl⟩; omega; exact hn0 (by omega), fun _ => by rcases hyy with ⟨_, rfl⟩ | ⟨_, rfl⟩; omega; omega⟩ ⟨rfl, rfl, rfl, rfl, trivial⟩
  · have hge : k = 2 := by have h := hc0; simp at h; omega
    refine code_exit ?_
    refine post_exit_then ?_
    refine post_exit_then ?_
    refine post_exit ?_
    refine post_next ?_
    refine code_seq ?_
    refine code_region ?_
    refine op_v (v_assign rfl) rfl ?_
    refine ops_nil ?_
    refine post_next ?_
    refine code_seq ?_
    refine code_seq ?_
    refine code_region ?_
    refine op_v (v_move rfl) rfl ?_
    refine op_v (v_len Try.underlying126 rfl) rfl ?_
    refine op_v (v_move rfl) rfl ?_
    refine ops_nil ?_
    refine post_next ?_
    refine code_block ?_
    have hlc : c.length ≤ 32 := hn0 (by omega)
    have hld : d.length ≤ 32 := hn1 (by omega)
    refine code_loop (fun m σ' I' δ' => ∃ k : Nat, m = 2 - k ∧ k ≤ 2 ∧ σ' = [(5, .func (.func 107) #[] #[]), (18, .slice (some ⟨g, 0, none⟩) 2 2), (19, .int .i64 (2 : Nat)), (20, .int .i64 k)] ∧ I.le I' ∧ δ' = [ccRow g vc vd] ∧ (0 < k → c.any badL = false) ∧ (1 < k → d.any badL = false)) 2 [(5, .func (.func 107) #[] #[]), (18, .slice (some ⟨g, 0, none⟩) 2 2), (19, .int .i64 (2 : Nat)), (20, .int .i64 (0 : Nat))] ⟨0, rfl, by omega, rfl, Imm.leA, rfl, fun h => by omega, fun h => by omega⟩ ⟨rfl, rfl, rfl, rfl, trivial⟩ ?_
    rintro m _ I1 _ ⟨k2, rfl, hk2, rfl, hI1, rfl, hm0, hm1⟩
    refine code_seq ?_
    refine code_region ?_
    refine op_v (v_cmp rfl rfl rfl) rfl ?_
    refine ops_nil ?_
    refine post_next ?_
    refine code_seq ?_
    refine code_cond rfl (fun hc2 => ?_) (fun hc2 => ?_)
    · have hlt2 : k2 < 2 := by have h := hc2; simp at h; omega
      obtain ⟨y, ya, yc, hat, hy, hys, hyb, hyy⟩ := hpick k2 hlt2
      refine code_skip ?_
      refine post_next ?_
      refine code_seq ?_
      refine code_block ?_
      refine code_seq ?_
      refine code_region ?_
      refine op_v (v_indexA Try.underlying126 sz26 rfl rfl) rfl ?_
      refine op_v (v_loadRow ty26 rfl Has.here rfl (ld_at (by rw [Nat.mul_one]; exact hat))) rfl ?_
      refine op_v (v_assign rfl) rfl ?_
      refine ops_nil ?_
      refine post_next ?_
      refine code_seq ?_
      refine code_region ?_
      refine op_v (v_move rfl) rfl ?_
      refine op_v (v_move rfl) rfl ?_
      refine op_call pl74 rfl rfl ((ContC_does (p := badL) (hy.mono hI1) (fun J x u hJ hu hx => hodd J u x (Imm.le_trans hI1 hJ) hu (hys x hx).1 (hys x hx).2))) Parts.none ?_
      rintro v26 I26 _ hI26 ⟨rfl, rfl⟩
      refine ops_nil ?_
      refine post_next ?_
      refine code_cond rfl (fun hc3 => ?_) (fun hc3 => ?_)
      · have hq : y.any badL = true := hc3
        refine code_seq ?_
        refine code_region ?_
        refine op_v (v_assign rfl) rfl ?_
        refine ops_nil ?_
        refine post_next ?_
        refine code_ret ?_
        refine post_ret_block ?_
        refine post_ret_then ?_
        refine post_ret_then ?_
        refine post_ret_block ?_
        refine post_ret_then ?_
        refine post_ret (rs := [.tmp 2]) rfl (List.Perm.refl _) (.cons (.tmp rfl) .nil) (List.Sublist.refl _) ?_
        exact ⟨by unfold wrE; rw [if_neg (by omega), if_pos (by rw [← any_badL, ← any_badL]; rcases hyy with ⟨_, rfl⟩ | ⟨_, rfl⟩; exact .inl hq; exact .inr hq)]; rfl, rfl⟩
      · have hq : y.any badL = false := hc3
        refine code_skip ?_
        refine post_out ?_
        refine post_next ?_
        refine code_region ?_
        refine op_v (v_addb rfl rfl rfl (by omega)) rfl ?_
        refine op_v (v_move rfl) rfl ?_
        refine ops_nil ?_
        refine post_again (2 - (k2 + 1)) [(5, .func (.func 107) #[] #[]), (18, .slice (some ⟨g, 0, none⟩) 2 2), (19, .int .i64 (2 : Nat)), (20, .int .i64 (k2 + 1 : Nat))] (by omega) ⟨k2 + 1, rfl, by omega, rfl, Imm.leA, rfl, fun _ => by rcases hyy with ⟨_, rfl⟩ | ⟨_, rfl⟩; exact hq; exact hm0 (by omega), fun _ => by rcases hyy with ⟨_, rfl⟩ | ⟨_, rfl⟩; omega; exact hq⟩ ⟨rfl, rfl, rfl, rfl, trivial⟩
    · have hge2 : k2 = 2 := by have h := hc2; simp at h; omega
      refine code_exit ?_
      refine post_exit_then ?_
      refine post_exit_then ?_
      refine post_exit ?_
      refine post_next ?_
      refine code_seq ?_
      refine code_region ?_
      refine op_v (v_assign rfl) rfl ?_
      refine ops_nil ?_
      refine post_next ?_
      refine code_ret ?_
      refine post_ret (rs := [.tmp 2]) rfl (List.Perm.refl _) (.cons (.tmp rfl) .nil) (List.Sublist.refl _) ?_
      exact ⟨by rw [wrE_zero hlc hld (by rw [← any_badL]; exact hm0 (by omega)) (by rw [← any_badL]; exact hm1 (by omega))]; rfl, rfl⟩
theorem Subsumes_does {I : Imm} {vc vd : Value} {c d : List Li} (hc : RepC I vc c) (hd : RepC I vd d) (hsc : SmM c) (hsd : SmM d) :
    Does Try.prog 16 [vc, vd] I [] (fun v I' δ' => (∃ q, v = .tuple #[.bool q, .int .i64 (wrE c d)] ∧ (q = true ↔ wrE c d = 0 ∧ Sub c d)) ∧ δ' = []) := by
  obtain ⟨ca, cc, hsh⟩ := RepE.shape hc
  subst hsh
  obtain ⟨da, dc, hsh⟩ := RepE.shape hd
  subst hsh
  have hbC := hc.small
  have hbD := hd.small
  have hsc1 : SmC c := fun x hx => by have := hsc x hx; omega
  have hsd1 : SmC d := fun x hx => by have := hsd x hx; omega
  refine Does.intro Try.func16 rfl Try.ntmps16 rfl fun w0 => ?_
  refine code_seq ?_
  refine code_region ?_
  refine op_v (v_assign rfl) rfl ?_
  refine op_v (v_assign rfl) rfl ?_
  refine ops_nil ?_
  refine post_next ?_
  refine code_seq ?_
  refine code_seq ?_
  refine code_region ?_
  refine op_v (v_move rfl) rfl ?_
  refine op_v (v_move rfl) rfl ?_
  refine o_buildSlice (xs := [(Go.Operand.tmp 8), (Go.Operand.tmp 9)]) Try.underlying126 bs26 rfl rfl rfl rfl rfl (fun b10 => ?_)
  refine op_call pl55 rfl rfl ((swrong_does hc hd hsc1 hsd1)) (Parts.one Del.here) ?_
  rintro v11 I11 _ hI11 ⟨rfl, rfl⟩
  refine op_v (v_assign rfl) rfl ?_
  refine ops_nil ?_
  refine post_next ?_
  refine code_seq ?_
  refine code_region ?_
  refine op_v (v_move rfl) rfl ?_
  by_cases h13 : wrE c d ≠ 0
  · refine op_v (v_cmptA rfl rfl rfl) rfl ?_
    refine ops_nil ?_
    refine post_next ?_
    refine code_cond_t rfl ?_
    refine code_seq ?_
    refine code_region ?_
    refine op_v (v_move rfl) rfl ?_
    refine op_v (v_assign rfl) rfl ?_
    refine op_v (v_assign rfl) rfl ?_
    refine ops_nil ?_
    refine post_next ?_
    refine code_ret ?_
    refine post_ret_then ?_
    refine post_ret (rs := [.tmp 4, .tmp 5]) rfl (List.Perm.refl _) (.cons (.tmp rfl) (.cons (.tmp rfl) .nil)) (List.nil_sublist _) ?_
    exact ⟨⟨false, rfl, by simp [h13]⟩, rfl⟩
  · have h0 : wrE c d = 0 := Classical.not_not.1 h13
    obtain ⟨hlc, hld, _, _⟩ := wrE_ok h0
    refine op_v (v_cmpfA rfl rfl rfl) rfl ?_
    refine ops_nil ?_
    refine post_next ?_
    refine code_cond_f rfl ?_
    refine code_skip ?_
    refine post_next ?_
    refine code_seq ?_
    refine code_seq ?_
    refine code_region ?_
    refine op_v (v_move rfl) rfl ?_
    refine op_v (v_len Try.underlying26 rfl) rfl ?_
    refine op_v (v_move rfl) rfl ?_
    refine op_v (v_len Try.underlying26 rfl) rfl ?_
    by_cases h19 : d.length < c.length
    · refine op_v (v_cmpt rfl rfl rfl (by omega)) rfl ?_
      refine ops_nil ?_
      refine post_next ?_
      refine code_cond_t rfl ?_
      refine code_seq ?_
      refine code_region ?_
      refine op_v (v_assign rfl) rfl ?_
      refine op_v (v_assign rfl) rfl ?_
      refine ops_nil ?_
      refine post_next ?_
      refine code_ret ?_
      refine post_ret_then ?_
      refine post_ret (rs := [.tmp 4, .tmp 5]) rfl (List.Perm.refl _) (.cons (.tmp rfl) (.cons (.tmp rfl) .nil)) (List.nil_sublist _) ?_
      exact ⟨⟨false, by rw [h0]; rfl, by simp only [Bool.false_eq_true, false_iff]; rintro ⟨_, h⟩; have := Sub_len h; omega⟩, rfl⟩
    · refine op_v (v_cmpf rfl rfl rfl (by omega)) rfl ?_
      refine ops_nil ?_
      refine post_next ?_
      refine code_cond_f rfl ?_
      refine code_skip ?_
      refine post_next ?_
      refine code_seq ?_
      refine code_region ?_
      refine op_v (v_move rfl) rfl ?_
      refine op_v (v_move rfl) rfl ?_
      refine op_v (v_len Try.underlying26 rfl) rfl ?_
      refine o_makeSlice (z := .bool false) (size := 1) (bytes := 1) (xs := (freeU d.length).map Value.bool) Try.underlying82 (by kernel_rfl) rfl rfl rfl (by omega) (by omega) (by rw [Nat.mul_one]; exact (madeCells_one _ _).trans (by simp [freeU])) (fun g23 => ?_)
      refine op_v (v_build bl84 rfl rfl) rfl ?_
      refine o_box rfl rfl rfl (fun b25 => ?_)
      refine op_v (v_assign rfl) rfl ?_
      refine ops_nil ?_
      refine post_next ?_
      refine code_seq ?_
      refine code_region ?_
      refine op_v (v_move rfl) rfl ?_
      refine op_v (v_move rfl) rfl ?_
      refine o_makeMap rfl (fun b28 => ?_)
      refine op_call pl56 rfl rfl ((all_does hsd c hsc (freeU d.length) _ _ _ [] _ (by simp [freeU]) (hd.mono Imm.leA) (hc.mono Imm.leA) (MB.nil _) (fun x h => by cases h))) (List.Perm.refl _) ?_
      rintro v29 I29 _ hI29 ⟨⟨q29, rfl, hq29⟩, rfl⟩
      refine op_v (v_assign rfl) rfl ?_
      refine op_v (v_assign rfl) rfl ?_
      refine ops_nil ?_
      refine post_next ?_
      refine code_ret ?_
      refine post_ret (rs := [.tmp 4, .tmp 5]) rfl (List.Perm.refl _) (.cons (.tmp rfl) (.cons (.tmp rfl) .nil)) (List.nil_sublist _) ?_
      exact ⟨⟨q29, by rw [h0]; rfl, by rw [hq29, SubB_Sub]; simp [h0]⟩, rfl⟩
theorem Variant_does {I : Imm} {vc vd : Value} {c d : List Li} (hc : RepC I vc c) (hd : RepC I vd d) (hsc : SmM c) (hsd : SmM d) :
    Does Try.prog 25 [vc, vd] I [] (fun v I' δ' => (∃ q, v = .tuple #[.bool q, .int .i64 (wrE c d)] ∧ (q = true ↔ wrE c d = 0 ∧ Sub c d ∧ Sub d c)) ∧ δ' = []) := by
  refine Does.intro Try.func25 rfl Try.ntmps25 rfl fun w0 => ?_
  refine code_seq ?_
  refine code_region ?_
  refine op_v (v_assign rfl) rfl ?_
  refine op_v (v_assign rfl) rfl ?_
  refine ops_nil ?_
  refine post_next ?_
  refine code_seq ?_
  refine code_region ?_
  refine op_v (v_move rfl) rfl ?_
  refine op_v (v_move rfl) rfl ?_
  refine op_call pl16 rfl rfl ((Subsumes_does hc hd hsc hsd)) Parts.none ?_
  rintro v11 I11 _ hI11 ⟨⟨q11, rfl, hq11⟩, rfl⟩
  refine op_v (v_move rfl) rfl ?_
  refine op_v (v_extract rfl rfl) rfl ?_
  refine op_v (v_extract rfl rfl) rfl ?_
  refine op_v (v_assign rfl) rfl ?_
  refine op_v (v_assign rfl) rfl ?_
  refine ops_nil ?_
  refine post_next ?_
  refine code_seq ?_
  refine code_seq ?_
  refine code_region ?_
  by_cases h14 : q11 = true
  · subst h14
    obtain ⟨h0, hs⟩ := hq11.1 rfl
    have h1 := wrE_comm h0
    refine op_v (v_move rfl) rfl ?_
    refine op_v (v_not rfl) rfl ?_
    refine ops_nil ?_
    refine post_next ?_
    refine code_cond_f rfl ?_
    refine code_skip ?_
    refine post_next ?_
    refine code_seq ?_
    refine code_region ?_
    refine op_v (v_move rfl) rfl ?_
    refine op_v (v_move rfl) rfl ?_
    refine op_call pl16 rfl rfl ((Subsumes_does (hd.mono Imm.leA) (hc.mono Imm.leA) hsd hsc)) Parts.none ?_
    rintro v19 I19 _ hI19 ⟨⟨q19, rfl, hq19⟩, rfl⟩
    refine op_v (v_extract rfl rfl) rfl ?_
    refine op_v (v_extract rfl rfl) rfl ?_
    refine op_v (v_assign rfl) rfl ?_
    refine op_v (v_assign rfl) rfl ?_
    refine ops_nil ?_
    refine post_next ?_
    refine code_ret ?_
    refine post_ret (rs := [.tmp 4, .tmp 5]) rfl (List.Perm.refl _) (.cons (.tmp rfl) (.cons (.tmp rfl) .nil)) (List.nil_sublist _) ?_
    exact ⟨⟨q19, by rw [h0, h1]; rfl, by rw [hq19]; simp [h0, h1, hs]⟩, rfl⟩
  · have h14' : q11 = false := by simpa using h14
    subst h14'
    refine op_v (v_move rfl) rfl ?_
    refine op_v (v_not rfl) rfl ?_
    refine ops_nil ?_
    refine post_next ?_
    refine code_cond_t rfl ?_
    refine code_seq ?_
    refine code_region ?_
    refine op_v (v_move rfl) rfl ?_
    refine op_v (v_assign rfl) rfl ?_
    refine op_v (v_assign rfl) rfl ?_
    refine ops_nil ?_
    refine post_next ?_
    refine code_ret ?_
    refine post_ret_then ?_
    refine post_ret (rs := [.tmp 4, .tmp 5]) rfl (List.Perm.refl _) (.cons (.tmp rfl) (.cons (.tmp rfl) .nil)) (List.nil_sublist _) ?_
    exact ⟨⟨false, rfl, by simp only [Bool.false_eq_true, false_iff]; rintro ⟨h1, h2, _⟩; have := hq11.2 ⟨h1, h2⟩; cases this⟩, rfl⟩
end Go.Proofs.Ytdbadicpbmndbaa
/- The order of terms, the other way round. Plain facts; no condition. -/
set_option linter.unusedVariables false
set_option linter.unusedSimpArgs false
namespace Go.Proofs.Ytdbadicpbmndbaa

end Go.Proofs.Ytdbadicpbmndbaa
/- Rows of things of which some are greater: what the rows' order is. Plain facts; no condition. -/
set_option linter.unusedVariables false
set_option linter.unusedSectionVars false
set_option linter.unusedSimpArgs false
namespace Go.Proofs.Ytdbadicpbmndbaa
section
variable {K : Type} [DecidableEq K]
variable (g : K → K → Bool)
variable {g}
/-- what is greater is so both ways -/
structure OrdX (g : K → K → Bool) (Ok : K → Prop) : Prop where
  irr : ∀ x, g x x = false
  tr : ∀ x y z, Ok x → Ok y → Ok z → g x y = true → g y z = true → g x z = true
end
end Go.Proofs.Ytdbadicpbmndbaa
/- Walks: how two literals stand; a literal oriented; the example of the chapter on literals. -/
set_option linter.unusedVariables false
set_option linter.unusedSimpArgs false
set_option linter.unnecessarySimpa false
/- short -/
namespace Go.Proofs.Ytdbadicpbmndbaa
open Go Lg

theorem rowL_mem {x : Li} {t : T} (h : t ∈ rowL x) : t = x.l ∨ t = x.r := by
  unfold rowL at h
  split at h <;> simp at h <;> exact h
def a9 : T := .mk 1 []
end Go.Proofs.Ytdbadicpbmndbaa
/- Rows of terms: greater than greater is greater; rows of literals. No condition. -/
set_option linter.unusedVariables false
set_option linter.unusedSimpArgs false
set_option linter.unnecessarySimpa false
namespace Go.Proofs.Ytdbadicpbmndbaa
open Go Lg

end Go.Proofs.Ytdbadicpbmndbaa
/- Clauses compared: plainly, and walks. -/
set_option linter.unusedVariables false
set_option linter.unusedSimpArgs false
set_option linter.unnecessarySimpa false
/- short -/
namespace Go.Proofs.Ytdbadicpbmndbaa
open Go Lg

/-! ### plain: a literal with its sides in order -/
def canL (x : Li) : Li := if cmpT x.l x.r = 1 then ⟨x.neg, x.r, x.l⟩ else x
def OkL (gs : List Sy) (x : Li) : Prop := OkG gs x.l ∧ OkG gs x.r
theorem OkL.row {gs : List Sy} {x : Li} (h : OkL gs x) : ∀ t ∈ rowL x, OkG gs t := fun t ht => by
  rcases rowL_mem ht with rfl | rfl
  · exact h.1
  · exact h.2
theorem OkL.can {gs : List Sy} {x : Li} (h : OkL gs x) : OkL gs (canL x) := by
  unfold canL
  split
  · exact ⟨h.2, h.1⟩
  · exact h
/-! ### walks -/
theorem DeleteC_does {I : Imm} {n i c : Nat} {A : Option Addr} {xs : List Value} (hi : i < n) (hb : n ≤ 1000000000) (h1 : ∀ u ∈ xs, u.oneCell' = true) :
    Does Try.prog 57 [.slice A n c, .int .i64 i, .int .i64 ((i : Int) + 1)] I [cRow A c n xs] (fun v _ δ' => v = .slice A (n - 1) c ∧ δ' = [cRow A c (n - 1) (xs.take (i * 5) ++ (xs.drop ((i + 1) * 5)).take ((n - (i + 1)) * 5))]) := by
  have e1 : (i : Int) + 1 = ((i + 1 : Nat) : Int) := by omega
  have e2 : i + (n - (i + 1)) = n - 1 := by omega
  rw [e1]
  refine Does.intro Try.func57 rfl Try.ntmps57 rfl fun w0 => ?_
  refine code_seq ?_
  refine code_region ?_
  refine op_v (v_assign rfl) rfl ?_
  refine ops_nil ?_
  refine post_next ?_
  refine code_seq ?_
  refine code_region ?_
  refine OpsJ.rowSome Has.here (by omega) (fun hA hcr => ?_)
  refine op_v (v_move rfl) rfl ?_
  refine op_v (v_move rfl) rfl ?_
  refine op_v (v_move rfl) rfl ?_
  refine op_v (v_move rfl) rfl ?_
  refine op_v (v_len Try.underlying26 rfl) rfl ?_
  refine op_v (v_slice3 Try.underlying26 sz49 rfl rfl rfl rfl (by omega) (by omega) (by omega)) rfl ?_
  refine ops_nil ?_
  refine post_next ?_
  refine code_seq ?_
  refine code_seq ?_
  refine code_region ?_
  refine op_v (v_move rfl) rfl ?_
  refine op_v (v_move rfl) rfl ?_
  refine op_v (v_cmpf rfl rfl rfl (by omega)) rfl ?_
  refine ops_nil ?_
  refine post_next ?_
  refine code_cond_f rfl ?_
  refine code_skip ?_
  refine post_next ?_
  refine code_seq ?_
  refine code_region ?_
  refine op_v (v_move rfl) rfl ?_
  refine op_v (v_len Try.underlying26 rfl) rfl ?_
  refine op_v (v_assign rfl) rfl ?_
  refine ops_nil ?_
  refine post_next ?_
  refine code_seq ?_
  refine code_draw (.fl 0 (.fl 1 (.fl 2 (.fl 3 (.fl 4 (.fl 5 (.ef 6 (.ef 7 .done)))))))) (fun _ => []) mixed (by kernel_rfl) (by kernel_rfl) (fun _ => (List.nil_sublist _)) ?_
  refine e_float rfl rfl (fun hs_ => PF.mk rfl (v_move rfl) hs_) Imm.leA (by intro x hx; cases hx) ?_
  refine e_float rfl rfl (fun hs_ => PF.mk rfl (v_move rfl) hs_) Imm.leA (by intro x hx; cases hx) ?_
  refine e_float rfl rfl (fun hs_ => PF.mk rfl (v_sliceTo Try.underlying26 sz49 rfl rfl (by omega)) hs_) Imm.leA (by intro x hx; cases hx) ?_
  refine e_float rfl rfl (fun hs_ => PF.mk rfl (v_move rfl) hs_) Imm.leA (by intro x hx; cases hx) ?_
  refine e_float rfl rfl (fun hs_ => PF.mk rfl (v_move rfl) hs_) Imm.leA (by intro x hx; cases hx) ?_
  refine e_float rfl rfl (fun hs_ => PF.mk rfl (v_sliceFrom Try.underlying26 sz49 rfl rfl (by omega) (by omega)) hs_) Imm.leA (by intro x hx; cases hx) ?_
  refine e_eff rfl (by intro cs b hc; cases hc) (by intro c hc; cases hc) ?_
  refine o_appendSelf Try.underlying26 bs49 rfl rfl rfl Swap.here (by omega) (by omega) (by omega) h1 (by omega) (by omega) hA ?_
  refine ops_nil ?_
  refine e_next rfl (side_all Imm.leA (fun _ => (by intro x hx; cases hx))) ?_
  refine e_eff rfl (by intro cs b hc; cases hc) (by intro c hc; cases hc) ?_
  refine op_v (v_assign rfl) rfl ?_
  refine ops_nil ?_
  refine e_next rfl (side_nil (by kernel_rfl)) ?_
  refine e_done ?_
  refine post_next ?_
  refine code_seq ?_
  refine code_region ?_
  rw [e2]
  refine op_v (v_move rfl) rfl ?_
  refine op_v (v_move rfl) rfl ?_
  refine op_v (v_len Try.underlying26 rfl) rfl ?_
  refine op_v (v_move rfl) rfl ?_
  refine op_v (v_slice2 Try.underlying26 sz49 rfl rfl rfl (by omega) (by omega)) rfl ?_
  refine o_clear Try.underlying26 (by kernel_rfl) (z := .agg #[.bool false, .int .i64 0, .slice none 0 0, .int .i64 0, .slice none 0 0]) (by rfl) (by rfl) rfl Has.here (by omega) ?_
  refine ops_nil ?_
  refine post_next ?_
  refine code_seq ?_
  refine code_region ?_
  refine op_v (v_move rfl) rfl ?_
  refine op_v (v_assign rfl) rfl ?_
  refine ops_nil ?_
  refine post_next ?_
  refine code_ret ?_
  refine post_ret (rs := [.tmp 6]) rfl (List.Perm.refl _) (.cons (.tmp rfl) .nil) (List.Sublist.refl _) ?_
  exact ⟨rfl, rfl⟩
theorem RowE.del {n : Nat} {α : Type} {E : Elt n α} {I : Imm} {xs : List Value} {al : List α} {i : Nat} (h : RowE E I xs al) (hi : i < al.length) : RowE E I (xs.take (i * n) ++ (xs.drop ((i + 1) * n)).take ((al.length - (i + 1)) * n)) (al.eraseIdx i) := by
  rw [List.eraseIdx_eq_take_drop_succ]
  refine (h.take i (by omega)).app ?_
  have h2 := h.drop (i + 1) (by omega)
  rw [List.take_of_length_le (by rw [h2.length, List.length_drop]; exact Nat.le_refl _)]
  exact h2
theorem chkC_ok {gs : List Sy} {c : List Li} (h : chkC gs c = 0) : chkG gs = 0 ∧ c.length ≤ 32 ∧ ∀ x ∈ c, litG gs x = 0 := by
  unfold chkC at h
  by_cases h1 : chkG gs ≠ 0
  · rw [if_pos h1] at h; exact absurd h h1
  · rw [if_neg h1] at h
    by_cases h2 : 32 < c.length
    · rw [if_pos h2] at h; cases h
    · rw [if_neg h2] at h
      exact ⟨Classical.not_not.1 h1, by omega, chkLs_ok.1 h⟩
end Go.Proofs.Ytdbadicpbmndbaa
/- Walks: which literal can be left out. -/
set_option linter.unusedVariables false
set_option linter.unusedSimpArgs false
set_option linter.unnecessarySimpa false
/- short -/
namespace Go.Proofs.Ytdbadicpbmndbaa
open Go Lg

/-- the literal of d at k can be left out by that of c at i -/
def CutP (c d : List Li) (i k : Nat) : Prop := ∃ (hi : i < c.length) (hk : k < d.length), c[i].neg ≠ d[k].neg ∧ ∃ θ, litM θ c[i] d[k] ∧ SubS θ d ((freeU d.length).set k true) (c.eraseIdx i)
def CutR (c d : List Li) (v : Value) : Prop :=
  (wrE c d ≠ 0 ∧ v = .tuple #[.int .i64 0, .bool false, .int .i64 (wrE c d)]) ∨
  (wrE c d = 0 ∧ (∀ i k, ¬ CutP c d i k) ∧ v = .tuple #[.int .i64 0, .bool false, .int .i64 0]) ∨
  (wrE c d = 0 ∧ ∃ k i, CutP c d i k ∧ (∀ j, j < k → ∀ i, ¬ CutP c d i j) ∧ v = .tuple #[.int .i64 (k : Nat), .bool true, .int .i64 0])
theorem CutR.eq {c d : List Li} {v w : Value} (h : CutR c d v) (h' : CutR c d w) : v = w := by
  rcases h with ⟨h0, rfl⟩ | ⟨h0, h1, rfl⟩ | ⟨h0, k, i, h1, h2, rfl⟩
  · rcases h' with ⟨_, rfl⟩ | ⟨h, _⟩ | ⟨h, _⟩
    · rfl
    · exact absurd h h0
    · exact absurd h h0
  · rcases h' with ⟨h, _⟩ | ⟨_, _, rfl⟩ | ⟨_, k, i, h, _⟩
    · exact absurd h0 h
    · rfl
    · exact absurd h (h1 i k)
  · rcases h' with ⟨h, _⟩ | ⟨_, h, _⟩ | ⟨_, k', i', h3, h4, rfl⟩
    · exact absurd h0 h
    · exact absurd h1 (h i k)
    · have e : k = k' := by
        rcases Nat.lt_trichotomy k k' with q | q | q
        · exact absurd h1 (h4 k q i)
        · exact q
        · exact absurd h3 (h2 k' q i')
      rw [e]
theorem Cut1_does {I : Imm} {b b8 b13 mb g : Nat} {xs : Mp} {bs : List Bi} {da : Option Addr} {dc : Nat} {ra : Option Addr} {rn rc : Nat} {c d : List Li} {us : List Bool} (hd : RepC I (.slice da d.length dc) d) (hc : RepC I (.slice ra rn rc) c) (hsc : SmM c) (hsd : SmM d) (hul : us.length = d.length) (hM : MB I xs bs) (hsb : SmB bs) :
    Does Try.prog 60 [.map (some b), .pointer (some ⟨b8, 0, none⟩), .pointer (some ⟨b13, 0, none⟩)] I [.map b xs, .box b13 26 [.slice ra rn rc], .box b8 81 [.pointer (some ⟨mb, 0, none⟩)], mtB mb g da dc d.length, mtR g d.length us] (fun v I' δ' => (∃ q, v = .bool q ∧ (q = true ↔ ∃ θ, Ext θ bs ∧ SubS θ d us c)) ∧ δ' = [.map b xs, .box b13 26 [.slice ra rn rc], .box b8 81 [.pointer (some ⟨mb, 0, none⟩)], mtB mb g da dc d.length, mtR g d.length us]) := by
  refine Does.intro Try.func60 rfl Try.ntmps60 rfl fun w0 => ?_
  refine code_seq ?_
  refine code_region ?_
  refine op_v (v_assign rfl) rfl ?_
  refine ops_nil ?_
  refine post_next ?_
  refine code_seq ?_
  refine code_region ?_
  refine op_v (v_loadA ty81 rfl rfl) rfl ?_
  refine op_v (v_loadA ty26 rfl rfl) rfl ?_
  refine op_v (v_move rfl) rfl ?_
  refine op_call pl56 rfl rfl ((all_does hsd c hsc us _ _ _ _ _ hul hd hc hM hsb)) ((List.Perm.cons _ (List.perm_append_comm (l₁ := [_, _])))) ?_
  rintro v8 I8 _ hI8 ⟨⟨q8, rfl, hq8⟩, rfl⟩
  refine OpsJ.view (View.perm (List.Perm.cons _ (List.perm_append_comm (l₂ := [_, _])))) ?_
  refine op_v (v_assign rfl) rfl ?_
  refine ops_nil ?_
  refine post_next ?_
  refine code_ret ?_
  refine post_ret (rs := [.tmp 4]) rfl (List.Perm.refl _) (.cons (.tmp rfl) .nil) (List.Sublist.refl _) ?_
  exact ⟨⟨q8, rfl, hq8⟩, rfl⟩
theorem Cut_does {I : Imm} {vc vd : Value} {c d : List Li} (hc : RepC I vc c) (hd : RepC I vd d) (hsc : SmM c) (hsd : SmM d) :
    Does Try.prog 17 [vc, vd] I [] (fun v I' δ' => CutR c d v ∧ δ' = []) := by
  obtain ⟨ca, cc, xc, hsh, hcc, hcb, hcellc, hrowc⟩ := id hc
  subst hsh
  obtain ⟨da, dc, xd, hsh, hdc, hdb, hcelld, hrowd⟩ := id hd
  subst hsh
  have hsc1 : SmC c := fun x hx => by have := hsc x hx; omega
  have hsd1 : SmC d := fun x hx => by have := hsd x hx; omega
  refine Does.intro Try.func17 rfl Try.ntmps17 rfl fun w0 => ?_
  refine code_seq ?_
  refine code_region ?_
  refine op_v (v_assign rfl) rfl ?_
  refine op_v (v_assign rfl) rfl ?_
  refine op_v (v_assign rfl) rfl ?_
  refine ops_nil ?_
  refine post_next ?_
  refine code_seq ?_
  refine code_seq ?_
  refine code_region ?_
  refine op_v (v_move rfl) rfl ?_
  refine op_v (v_move rfl) rfl ?_
  refine o_buildSlice (xs := [(Go.Operand.tmp 14), (Go.Operand.tmp 15)]) Try.underlying126 bs26 rfl rfl rfl rfl rfl (fun b16 => ?_)
  refine op_call pl55 rfl rfl ((swrong_does hc hd hsc1 hsd1)) (Parts.one Del.here) ?_
  rintro v17 I17 _ hI17 ⟨rfl, rfl⟩
  refine op_v (v_assign rfl) rfl ?_
  refine ops_nil ?_
  refine post_next ?_
  refine code_seq ?_
  refine code_region ?_
  refine op_v (v_move rfl) rfl ?_
  by_cases h19 : wrE c d ≠ 0
  · refine op_v (v_cmptA rfl rfl rfl) rfl ?_
    refine ops_nil ?_
    refine post_next ?_
    refine code_cond_t rfl ?_
    refine code_seq ?_
    refine code_region ?_
    refine op_v (v_move rfl) rfl ?_
    refine op_v (v_assign rfl) rfl ?_
    refine op_v (v_assign rfl) rfl ?_
    refine op_v (v_assign rfl) rfl ?_
    refine ops_nil ?_
    refine post_next ?_
    refine code_ret ?_
    refine post_ret_then ?_
    refine post_ret (rs := [.tmp 4, .tmp 5, .tmp 6]) rfl (List.Perm.refl _) (.cons (.tmp rfl) (.cons (.tmp rfl) (.cons (.tmp rfl) .nil))) (List.nil_sublist _) ?_
    exact ⟨.inl ⟨h19, rfl⟩, rfl⟩
  · have h0 : wrE c d = 0 := Classical.not_not.1 h19
    obtain ⟨hlc, hld, _, _⟩ := wrE_ok h0
    refine op_v (v_cmpfA rfl rfl rfl) rfl ?_
    refine ops_nil ?_
    refine post_next ?_
    refine code_cond_f rfl ?_
    refine code_skip ?_
    refine post_next ?_
    refine code_seq ?_
    refine code_region ?_
    refine op_v (v_move rfl) rfl ?_
    refine op_v (v_move rfl) rfl ?_
    refine op_v (v_len Try.underlying26 rfl) rfl ?_
    refine o_makeSlice (z := .bool false) (size := 1) (bytes := 1) (xs := (freeU d.length).map Value.bool) Try.underlying82 (by kernel_rfl) rfl rfl rfl (by omega) (by omega) (by rw [Nat.mul_one]; exact (madeCells_one _ _).trans (by simp [freeU])) (fun g24 => ?_)
    refine op_v (v_build bl84 rfl rfl) rfl ?_
    refine o_box rfl rfl rfl (fun b26 => ?_)
    refine o_alloc z81 rfl rfl (fun b8 => ?_)
    refine o_store ty81 rfl rfl rfl rfl rfl (by repeat (first | exact Swap.here | apply Swap.there)) rfl ?_
    refine ops_nil ?_
    refine post_next ?_
    refine code_seq ?_
    refine code_seq ?_
    refine code_region ?_
    refine op_v (v_move rfl) rfl ?_
    refine op_v (v_len Try.underlying26 rfl) rfl ?_
    refine op_v (v_move rfl) rfl ?_
    refine ops_nil ?_
    refine post_next ?_
    refine code_block ?_
    have hgs : (some (⟨g24, 0, none⟩ : Addr)).isSome = true := rfl
    refine CodeJ.view (View.sub (List.Sublist.cons_cons _ (List.Sublist.cons_cons _ (List.Sublist.cons_cons _ (List.nil_sublist _))))) ?_
    refine code_loop (fun m σ' I' δ' => ∃ k : Nat, m = d.length - k ∧ k ≤ d.length ∧ σ' = [(0, .slice ca c.length cc), (8, .pointer (some ⟨b8, 0, none⟩)), (27, .slice da d.length dc), (28, .int .i64 d.length), (29, .int .i64 k)] ∧ I17.le I' ∧ δ' = [.box b8 81 [.pointer (some ⟨b26, 0, none⟩)], mtB b26 g24 da dc d.length, mtR g24 d.length (freeU d.length)] ∧ ∀ j, j < k → ∀ i, ¬ CutP c d i j) d.length [(0, .slice ca c.length cc), (8, .pointer (some ⟨b8, 0, none⟩)), (27, .slice da d.length dc), (28, .int .i64 d.length), (29, .int .i64 (0 : Nat))] ⟨0, rfl, Nat.zero_le _, rfl, Imm.le_refl _, rfl, fun j h => by omega⟩ ⟨rfl, rfl, rfl, rfl, rfl, trivial⟩ ?_
    rintro m _ I0 _ ⟨k, rfl, hk, rfl, hI0, rfl, hno⟩
    refine code_seq ?_
    refine code_region ?_
    refine op_v (v_cmp rfl rfl rfl) rfl ?_
    refine ops_nil ?_
    refine post_next ?_
    refine code_seq ?_
    refine code_cond rfl (fun hc1 => ?_) (fun hc1 => ?_)
    · have hlt : k < d.length := by simpa using hc1
      obtain ⟨vd, ⟨la, lc, ra, rc, rfl, hll, hlr⟩, hatd⟩ := hrowd.cellsAt hcelld hlt
      have hs1 := hatd.isSome
      have hsk := hsd _ (List.getElem_mem hlt)
      have hku : k < (freeU d.length).length := by simpa [freeU] using hlt
      have hfu : (freeU d.length)[k] = false := by simp [freeU]
      have hfk : (freeU d.length)[k]? = some false := by rw [List.getElem?_eq_getElem hku, hfu]
      refine code_skip ?_
      refine post_next ?_
      refine code_seq ?_
      refine code_block ?_
      refine code_seq ?_
      refine code_region ?_
      refine op_v (v_move rfl) rfl ?_
      refine op_v (v_indexA Try.underlying26 sz49 rfl rfl) rfl ?_
      refine op_v (v_loadI0 ty49 (hatd.mono Imm.leA) rfl rfl rfl) rfl ?_
      refine o_alloc z49 rfl rfl (fun b10 => ?_)
      refine op_v (v_assign rfl) rfl ?_
      refine o_store ty49 rfl rfl rfl rfl rfl (by repeat (first | exact Swap.here | apply Swap.there)) rfl ?_
      refine ops_nil ?_
      refine post_next ?_
      refine code_seq ?_
      refine code_region ?_
      refine op_v (v_loadA ty81 rfl rfl) rfl ?_
      refine op_v (v_nilCheck rfl) rfl ?_
      refine op_v (v_fieldB 1 Try.underlying84 rfl rfl fz82 rfl) rfl ?_
      refine op_v (v_loadA ty82 rfl rfl) rfl ?_
      refine op_v (v_move rfl) rfl ?_
      refine op_v (v_indexA Try.underlying82 sz4 rfl rfl) rfl ?_
      refine o_storeRow (xs' := ((freeU d.length).set k true).map Value.bool) ty4 rfl rfl rfl rfl rfl rfl (by simp [cellsL, freeU]) (by repeat (first | exact Swap.here | apply Swap.there)) (by rw [List.map_set, Nat.mul_one]; exact stL_one (x := .bool (freeU d.length)[k]) (by rw [List.getElem?_map, List.getElem?_eq_getElem hku]; rfl)) ?_
      refine ops_nil ?_
      refine post_next ?_
      refine code_seq ?_
      refine code_seq ?_
      refine code_region ?_
      refine op_v (v_move rfl) rfl ?_
      refine op_v (v_len Try.underlying26 rfl) rfl ?_
      refine op_v (v_move rfl) rfl ?_
      refine ops_nil ?_
      refine post_next ?_
      refine code_block ?_
      refine code_loop (fun m σ' I' δ' => ∃ i : Nat, m = c.length - i ∧ i ≤ c.length ∧ σ' = [(0, .slice ca c.length cc), (8, .pointer (some ⟨b8, 0, none⟩)), (9, .int .i64 k), (10, .pointer (some ⟨b10, 0, none⟩)), (27, .slice da d.length dc), (28, .int .i64 d.length), (29, .int .i64 k), (40, .slice ca c.length cc), (41, .int .i64 c.length), (42, .int .i64 i)] ∧ I0.le I' ∧ δ' = [.box b10 49 (liC d[k] la lc ra rc), .box b8 81 [.pointer (some ⟨b26, 0, none⟩)], mtB b26 g24 da dc d.length, mtR g24 d.length ((freeU d.length).set k true)] ∧ ∀ j, j < i → ¬ CutP c d j k) c.length [(0, .slice ca c.length cc), (8, .pointer (some ⟨b8, 0, none⟩)), (9, .int .i64 k), (10, .pointer (some ⟨b10, 0, none⟩)), (27, .slice da d.length dc), (28, .int .i64 d.length), (29, .int .i64 k), (40, .slice ca c.length cc), (41, .int .i64 c.length), (42, .int .i64 (0 : Nat))] ⟨0, rfl, Nat.zero_le _, rfl, Imm.le_refl _, rfl, fun j h => by omega⟩ ⟨rfl, rfl, rfl, rfl, rfl, rfl, rfl, rfl, rfl, rfl, trivial⟩ ?_
      rintro m _ I1 _ ⟨i, rfl, hi, rfl, hI1, rfl, hno1⟩
      refine code_seq ?_
      refine code_region ?_
      refine op_v (v_cmp rfl rfl rfl) rfl ?_
      refine ops_nil ?_
      refine post_next ?_
      refine code_seq ?_
      refine code_cond rfl (fun hc2 => ?_) (fun hc2 => ?_)
      · have hlti : i < c.length := by have h := hc2; simp at h; omega
        obtain ⟨vi, ⟨pa, pc, qa, qc, rfl, hpl, hpr⟩, hatc⟩ := hrowc.cellsAt hcellc hlti
        have hs2 := hatc.isSome
        have hsi := hsc _ (List.getElem_mem hlti)
        have hnext : ¬ CutP c d i k → ∀ j, j < i + 1 → ¬ CutP c d j k := fun h j hj => by
          rcases Nat.lt_or_ge j i with q | q
          · exact hno1 j q
          · have e : j = i := by omega
            subst e; exact h
        refine code_skip ?_
        refine post_next ?_
        refine code_seq ?_
        refine code_block ?_
        refine code_seq ?_
        refine code_region ?_
        refine op_v (v_move rfl) rfl ?_
        refine op_v (v_indexA Try.underlying26 sz49 rfl rfl) rfl ?_
        refine op_v (v_loadI0 ty49 (hatc.mono Imm.leA) rfl rfl rfl) rfl ?_
        refine o_alloc z49 rfl rfl (fun b12 => ?_)
        refine op_v (v_assign rfl) rfl ?_
        refine o_store ty49 rfl rfl rfl rfl rfl (by repeat (first | exact Swap.here | apply Swap.there)) rfl ?_
        refine ops_nil ?_
        refine post_next ?_
        refine code_seq ?_
        refine code_region ?_
        refine op_v (v_move rfl) rfl ?_
        refine op_call pl58 rfl rfl ((CloneC_does (hc.mono Imm.leA))) Parts.none ?_
        rintro v48 I48 _ hI48 ⟨ra48, rc48, xr, rfl, hrow48, rfl⟩
        refine op_v (v_move rfl) rfl ?_
        refine op_v (v_move rfl) rfl ?_
        refine op_v (v_addb rfl rfl rfl (by omega)) rfl ?_
        refine op_call pl57 rfl rfl ((DeleteC_does hlti (by omega) hrow48.one1)) (Parts.one Del.here) ?_
        rintro v52 I52 _ hI52 ⟨rfl, rfl⟩
        refine o_alloc z26 rfl rfl (fun b13 => ?_)
        refine o_store ty26 rfl rfl rfl rfl rfl (by repeat (first | exact Swap.here | apply Swap.there)) rfl ?_
        refine ops_nil ?_
        refine post_next ?_
        refine code_seq ?_
        refine code_region ?_
        have hlen : c.length - 1 = (c.eraseIdx i).length := by rw [List.length_eraseIdx]; simp [hlti]
        have hrow52 := (hrow48.mono hI52).del hlti
        have hser : SmM (c.eraseIdx i) := fun x hx => hsc x (List.mem_of_mem_eraseIdx hx)
        refine OpsJ.freezeRow (Del.there Del.here) ?_
        rintro I53 a53 c53 hI53 hq hc53 hl53 hcells53
        cases hq
        have hrep : RepC I53 (.slice ra48 (c.length - 1) rc48) (c.eraseIdx i) := ⟨_, _, _, by rw [hlen], by rw [← hlen]; exact hc53, by omega, hcells53, hrow52.mono hI53⟩
        refine op_v (v_fieldB 0 Try.underlying49 rfl rfl fz4 rfl) rfl ?_
        refine op_v (v_loadA ty4 rfl rfl) rfl ?_
        refine op_v (v_fieldB 0 Try.underlying49 rfl rfl fz4 rfl) rfl ?_
        refine op_v (v_loadA ty4 rfl rfl) rfl ?_
        by_cases h57 : c[i].neg = d[k].neg
        · refine op_v (v_eqb (z := false) Try.underlying4 rfl rfl (by rw [h57]; simp [cmpB])) rfl ?_
          refine op_v (v_move rfl) rfl ?_
          refine op_skip rfl rfl (by simp [undef]) rfl ?_
          refine op_skip rfl rfl (by simp [undef]) rfl ?_
          refine op_skip rfl rfl (by simp [undef]) rfl ?_
          refine op_skip rfl rfl (by simp [undef]) rfl ?_
          refine op_skip rfl rfl (by simp [undef]) rfl ?_
          refine op_v (v_pickf rfl rfl) rfl ?_
          refine ops_nil ?_
          refine post_next ?_
          refine code_cond_f rfl ?_
          refine code_skip ?_
          refine post_out ?_
          refine post_next ?_
          refine code_region ?_
          refine op_v (v_addb rfl rfl rfl (by omega)) rfl ?_
          refine op_v (v_move rfl) rfl ?_
          refine ops_nil ?_
          refine PostJ.view ((View.drop Del.here).trans (View.drop Del.here)) ?_
          refine post_again (c.length - (i + 1)) [(0, .slice ca c.length cc), (8, .pointer (some ⟨b8, 0, none⟩)), (9, .int .i64 k), (10, .pointer (some ⟨b10, 0, none⟩)), (27, .slice da d.length dc), (28, .int .i64 d.length), (29, .int .i64 k), (40, .slice ca c.length cc), (41, .int .i64 c.length), (42, .int .i64 (i + 1 : Nat))] (by omega) ⟨i + 1, rfl, hlti, rfl, Imm.leA, rfl, hnext (fun ⟨_, _, h, _⟩ => h h57)⟩ ⟨rfl, rfl, rfl, rfl, rfl, rfl, rfl, rfl, rfl, rfl, trivial⟩
        · refine op_v (v_eqb (z := true) Try.underlying4 rfl rfl (by simp [cmpB, h57])) rfl ?_
          refine op_v (v_move rfl) rfl ?_
          refine op_want rfl rfl ?_
          refine o_makeMap rfl (fun b59 => ?_)
          refine op_want rfl rfl ?_
          refine op_v (v_loadA ty49 rfl rfl) rfl ?_
          refine op_want rfl rfl ?_
          refine op_v (v_loadA ty49 rfl rfl) rfl ?_
          refine op_want rfl rfl ?_
          refine op_v (v_makeFunc rfl rfl) rfl ?_
          refine op_want rfl rfl ?_
          refine op_call pl59 rfl rfl ((ways_does (a := c[i]) (l := d[k]) (bs := []) (Q := fun θ => SubS θ d ((freeU d.length).set k true) (c.eraseIdx i)) (MB.nil _) (fun x h => by cases h) ⟨pa, pc, qa, qc, rfl, hpl.mono Imm.leA, hpr.mono Imm.leA⟩ ⟨la, lc, ra, rc, rfl, hll.mono Imm.leA, hlr.mono Imm.leA⟩ hsi.1 hsi.2 hsk.1 hsk.2 (fun J b' xs' bs' hJ hM' hsb' => FDoes.ofFunc (args := [_]) (caps := [_, _]) pl60 (Cut1_does (hd.mono (Imm.le_trans (show I.le I53 from Imm.leA) hJ)) (hrep.mono hJ) hser hsd (by simp [freeU]) hM' hsb')))) (List.Perm.cons _ (List.Perm.cons _ (List.perm_append_comm (l₁ := [_, _])))) ?_
          rintro v63 I63 _ hI63 ⟨⟨q63, rfl, hq63⟩, rfl⟩
          have hqk : q63 = true ↔ CutP c d i k := by
            rw [hq63]
            constructor
            · rintro ⟨θ, _, e2, e3⟩; exact ⟨hlti, hlt, h57, θ, e2, e3⟩
            · rintro ⟨_, _, _, θ, e2, e3⟩; exact ⟨θ, Ext_nil θ, e2, e3⟩
          refine op_v (v_pickt rfl rfl) rfl ?_
          refine ops_nil ?_
          refine post_next ?_
          refine code_cond rfl (fun hc3 => ?_) (fun hc3 => ?_)
          · have hq : q63 = true := hc3
            refine code_seq ?_
            refine code_region ?_
            refine op_v (v_move rfl) rfl ?_
            refine op_v (v_assign rfl) rfl ?_
            refine op_v (v_assign rfl) rfl ?_
            refine op_v (v_assign rfl) rfl ?_
            refine ops_nil ?_
            refine post_next ?_
            refine code_ret ?_
            refine post_ret_block ?_
            refine post_ret_then ?_
            refine post_ret_then ?_
            refine post_ret_block ?_
            refine post_ret_then ?_
            refine post_ret_block ?_
            refine post_ret_then ?_
            refine post_ret_then ?_
            refine post_ret_block ?_
            refine post_ret_then ?_
            refine post_ret (rs := [.tmp 4, .tmp 5, .tmp 6]) rfl (List.Perm.refl _) (.cons (.tmp rfl) (.cons (.tmp rfl) (.cons (.tmp rfl) .nil))) (List.nil_sublist _) ?_
            exact ⟨.inr (.inr ⟨h0, k, i, hqk.1 hq, hno, rfl⟩), rfl⟩
          · have hq : ¬ q63 = true := by rw [hc3]; simp
            refine code_skip ?_
            refine post_out ?_
            refine post_next ?_
            refine code_region ?_
            refine op_v (v_addb rfl rfl rfl (by omega)) rfl ?_
            refine op_v (v_move rfl) rfl ?_
            refine ops_nil ?_
            refine PostJ.view ((View.drop Del.here).trans ((View.drop Del.here).trans ((View.perm (List.perm_append_comm (l₁ := [_, _, _]))).trans (View.drop Del.here)))) ?_
            refine post_again (c.length - (i + 1)) [(0, .slice ca c.length cc), (8, .pointer (some ⟨b8, 0, none⟩)), (9, .int .i64 k), (10, .pointer (some ⟨b10, 0, none⟩)), (27, .slice da d.length dc), (28, .int .i64 d.length), (29, .int .i64 k), (40, .slice ca c.length cc), (41, .int .i64 c.length), (42, .int .i64 (i + 1 : Nat))] (by omega) ⟨i + 1, rfl, hlti, rfl, Imm.leA, rfl, hnext (fun h => hq (hqk.2 h))⟩ ⟨rfl, rfl, rfl, rfl, rfl, rfl, rfl, rfl, rfl, rfl, trivial⟩
      · have hgei : i = c.length := by have h := hc2; simp at h; omega
        refine code_exit ?_
        refine post_exit_then ?_
        refine post_exit_then ?_
        refine post_exit ?_
        refine post_next ?_
        refine code_region ?_
        refine op_v (v_loadA ty81 rfl rfl) rfl ?_
        refine op_v (v_nilCheck rfl) rfl ?_
        refine op_v (v_fieldB 1 Try.underlying84 rfl rfl fz82 rfl) rfl ?_
        refine op_v (v_loadA ty82 rfl rfl) rfl ?_
        refine op_v (v_move rfl) rfl ?_
        refine op_v (v_indexA Try.underlying82 sz4 rfl rfl) rfl ?_
        refine o_storeRow (xs' := (freeU d.length).map Value.bool) ty4 rfl rfl rfl rfl rfl rfl (by simp [cellsL, freeU]) (by repeat (first | exact Swap.here | apply Swap.there)) (by rw [Nat.mul_one]; have e := congrArg (List.map Value.bool) (set_back hfk); rw [List.map_set] at e; rw [← e]; exact stL_one (x := .bool true) (by rw [List.getElem?_map, List.getElem?_set_self hku]; rfl)) ?_
        refine ops_nil ?_
        refine post_out ?_
        refine post_next ?_
        refine code_region ?_
        refine op_v (v_addb rfl rfl rfl (by omega)) rfl ?_
        refine op_v (v_move rfl) rfl ?_
        refine ops_nil ?_
        refine PostJ.view (View.drop Del.here) ?_
        refine post_again (d.length - (k + 1)) [(0, .slice ca c.length cc), (8, .pointer (some ⟨b8, 0, none⟩)), (27, .slice da d.length dc), (28, .int .i64 d.length), (29, .int .i64 (k + 1 : Nat))] (by omega) ⟨k + 1, rfl, hlt, rfl, Imm.leA, rfl, fun j hj i' hP => ?_⟩ ⟨rfl, rfl, rfl, rfl, rfl, trivial⟩
        rcases Nat.lt_or_ge j k with q | q
        · exact hno j q i' hP
        · have e : j = k := by omega
          subst e
          exact hno1 i' (by obtain ⟨h, _⟩ := hP; omega) hP
    · have hge : k = d.length := by simp at hc1; omega
      refine code_exit ?_
      refine post_exit_then ?_
      refine post_exit_then ?_
      refine post_exit ?_
      refine post_next ?_
      refine code_seq ?_
      refine code_region ?_
      refine op_v (v_assign rfl) rfl ?_
      refine op_v (v_assign rfl) rfl ?_
      refine op_v (v_assign rfl) rfl ?_
      refine ops_nil ?_
      refine post_next ?_
      refine code_ret ?_
      refine post_ret (rs := [.tmp 4, .tmp 5, .tmp 6]) rfl (List.Perm.refl _) (.cons (.tmp rfl) (.cons (.tmp rfl) (.cons (.tmp rfl) .nil))) (List.nil_sublist _) ?_
      exact ⟨.inr (.inl ⟨h0, fun i k' hP => hno k' (by obtain ⟨_, h, _⟩ := hP; omega) i hP, rfl⟩), rfl⟩
end Go.Proofs.Ytdbadicpbmndbaa
/- Walks: the document's answers on signatures and terms (layers 1 and 7). -/
set_option linter.unusedVariables false
set_option linter.unusedSimpArgs false
/- short -/
namespace Go.Proofs.Ytdbadicpbmndbaa
open Go Lg

theorem toList_loop_len (bs : ByteArray) : ∀ (n i : Nat) (r : List UInt8), bs.size - i = n → (ByteArray.toList.loop bs i r).length = r.length + n := by
  intro n
  induction n with
  | zero => intro i r h; rw [ByteArray.toList.loop, if_neg (by omega)]; simp
  | succ n ih => intro i r h; rw [ByteArray.toList.loop, if_pos (by omega), ih (i + 1) _ (by omega)]; simp; omega
theorem toList_len (bs : ByteArray) : bs.toList.length = bs.size := by
  unfold ByteArray.toList; rw [toList_loop_len bs bs.size 0 [] (by omega)]; simp
theorem nmEq_nil {a : ByteArray} : nmEq a ⟨#[]⟩ = true ↔ a.size < 1 := by
  rw [nmEq_iff]
  have h1 := toList_len a
  have h2 : (⟨#[]⟩ : ByteArray).toList = [] := by decide +kernel
  rw [h2]
  constructor
  · intro h; rw [h] at h1; simp at h1; omega
  · intro h; exact List.eq_nil_of_length_eq_zero (by omega)
theorem any_take_false {α : Type} {p : α → Bool} {l : List α} {k : Nat} (h : ∀ i (h : i < l.length), i < k → p l[i] = false) (hk : k ≤ l.length) : (l.take k).any p = false := by
  rw [List.any_eq_false]
  intro x hx
  obtain ⟨i, hi, rfl⟩ := List.getElem_of_mem hx
  rw [List.length_take] at hi
  rw [List.getElem_take, h i (by omega) (by omega)]; simp
theorem any_all_false {α : Type} {p : α → Bool} {l : List α} (h : ∀ i (h : i < l.length), p l[i] = false) : l.any p = false := by
  have := any_take_false (k := l.length) (fun i hi _ => h i hi) (Nat.le_refl _)
  rwa [List.take_length] at this
theorem any_at_true {α : Type} {p : α → Bool} {l : List α} (i : Nat) (hi : i < l.length) (h : p l[i] = true) : l.any p = true := List.any_eq_true.2 ⟨_, List.getElem_mem hi, h⟩
theorem any_take_true {α : Type} {p : α → Bool} {l : List α} (i k : Nat) (hi : i < k) (hk : k ≤ l.length) (h : p (l[i]'(by omega)) = true) : (l.take k).any p = true :=
  List.any_eq_true.2 ⟨_, List.mem_take_iff_getElem.2 ⟨i, by omega, rfl⟩, h⟩

theorem RightR_does {I : Imm} {v : Value} {gs : List Sy} (hv : RepG I v gs) :
    Does Try.prog 64 [v] I [] (fun v _ δ' => v = .bool (rightG gs) ∧ δ' = []) := by
  obtain ⟨ad, c, rfl⟩ := hv.shape
  obtain ⟨_, hc, hb, hat, hok⟩ := hv.open
  have hbad : ∀ i (h : i < gs.length), badS (gs.take i) gs[i] = true → rightG gs = false := fun i h hb => by
    cases hr : rightG gs with
    | false => rfl
    | true => rw [rightG_at hr i h] at hb; cases hb
  refine Does.intro Try.func64 rfl Try.ntmps64 rfl fun w0 => ?_
  refine code_seq ?_
  refine code_region ?_
  refine op_v (v_assign rfl) rfl ?_
  refine ops_nil ?_
  refine post_next ?_
  refine code_seq ?_
  refine code_seq ?_
  refine code_region ?_
  refine op_v (v_move rfl) rfl ?_
  refine op_v (v_len Try.underlying22 rfl) rfl ?_
  by_cases h8 : gs.length < 1
  · refine op_v (v_cmptA rfl rfl rfl) rfl ?_
    refine op_v (v_move rfl) rfl ?_
    refine op_skip rfl rfl (by simp [undef]) rfl ?_
    refine op_skip rfl rfl (by simp [undef]) rfl ?_
    refine op_skip rfl rfl (by simp [undef]) rfl ?_
    refine op_v (v_pickt rfl rfl) rfl ?_
    refine ops_nil ?_
    refine post_next ?_
    refine code_cond_t rfl ?_
    refine code_seq ?_
    refine code_region ?_
    refine op_v (v_assign rfl) rfl ?_
    refine ops_nil ?_
    refine post_next ?_
    refine code_ret ?_
    refine post_ret_then ?_
    refine post_ret (rs := [.tmp 2]) rfl (List.Perm.refl _) (.cons (.tmp rfl) .nil) (List.nil_sublist _) ?_
    have : rightG gs = false := by { cases hr : rightG gs; rfl; have := rightG_len hr; omega }
    exact ⟨by rw [this]; rfl, rfl⟩
  · refine op_v (v_cmpfA rfl rfl rfl) rfl ?_
    refine op_v (v_move rfl) rfl ?_
    refine op_want rfl rfl ?_
    refine op_v (v_move rfl) rfl ?_
    refine op_want rfl rfl ?_
    refine op_v (v_len Try.underlying22 rfl) rfl ?_
    by_cases h12 : 256 < gs.length
    · first
        | (refine op_want rfl rfl ?_
           refine op_v (v_cmptA rfl rfl rfl) rfl ?_)
        | (refine op_skip rfl rfl (by simp [undef]) rfl ?_)
      refine op_v (v_pickf rfl rfl) rfl ?_
      refine ops_nil ?_
      refine post_next ?_
      refine code_cond_t rfl ?_
      refine code_seq ?_
      refine code_region ?_
      refine op_v (v_assign rfl) rfl ?_
      refine ops_nil ?_
      refine post_next ?_
      refine code_ret ?_
      refine post_ret_then ?_
      refine post_ret (rs := [.tmp 2]) rfl (List.Perm.refl _) (.cons (.tmp rfl) .nil) (List.nil_sublist _) ?_
      have : rightG gs = false := by { cases hr : rightG gs; rfl; have := rightG_len hr; omega }
      exact ⟨by rw [this]; rfl, rfl⟩
    · have h0 : 0 < gs.length := by omega
      have hs0 : ad.isSome = true := (hat 0 h0).isSome
      first
        | (refine op_want rfl rfl ?_
           refine op_v (v_cmpfA rfl rfl rfl) rfl ?_)
        | (refine op_skip rfl rfl (by simp [undef]) rfl ?_)
      refine op_v (v_pickf rfl rfl) rfl ?_
      refine ops_nil ?_
      refine post_next ?_
      refine code_cond_f rfl ?_
      refine code_skip ?_
      refine post_next ?_
      refine code_seq ?_
      refine code_seq ?_
      refine code_region ?_
      refine op_v (v_assign rfl) rfl ?_
      refine ops_nil ?_
      refine post_next ?_
      refine code_block ?_
      refine code_loop (fun m σ' I' δ' => ∃ k : Nat, m = gs.length - k ∧ k ≤ gs.length ∧ σ' = [(0, .slice ad gs.length c), (3, .int .i64 k)] ∧ I = I' ∧ δ' = [] ∧ ∀ i (h : i < gs.length), i < k → badS (gs.take i) gs[i] = false) gs.length [(0, .slice ad gs.length c), (3, .int .i64 (0 : Nat))] ⟨0, rfl, Nat.zero_le _, rfl, rfl, rfl, fun i _ h => by omega⟩ ⟨rfl, rfl, trivial⟩ ?_
      rintro m _ _ _ ⟨k, rfl, hk, rfl, rfl, rfl, hp⟩
      refine code_seq ?_
      refine code_seq ?_
      refine code_region ?_
      refine op_v (v_move rfl) rfl ?_
      refine op_v (v_move rfl) rfl ?_
      refine op_v (v_len Try.underlying22 rfl) rfl ?_
      refine op_v (v_cmp rfl rfl rfl) rfl ?_
      refine ops_nil ?_
      refine post_next ?_
      refine code_cond rfl (fun hc1 => ?_) (fun hc1 => ?_)
      · have hlt : k < gs.length := by simpa using hc1
        have hs1 := (hat k hlt).isSome
        refine code_skip ?_
        refine post_next ?_
        refine code_seq ?_
        refine code_block ?_
        refine code_seq ?_
        refine code_region ?_
        refine op_v (v_move rfl) rfl ?_
        refine op_v (v_move rfl) rfl ?_
        refine op_v (v_indexA Try.underlying22 sz79 rfl rfl) rfl ?_
        refine op_v (v_loadI0 ty79 (hat k hlt) rfl rfl rfl) rfl ?_
        refine o_alloc z79 rfl rfl (fun b4 => ?_)
        refine o_store ty79 rfl rfl rfl rfl rfl (by repeat (first | exact Swap.here | apply Swap.there)) rfl ?_
        refine ops_nil ?_
        refine post_next ?_
        refine code_seq ?_
        refine code_seq ?_
        refine code_region ?_
        refine op_v (v_fieldB 0 Try.underlying79 rfl rfl fz9 rfl) rfl ?_
        refine op_v (v_loadA ty9 rfl rfl) rfl ?_
        refine op_v (v_lens Try.underlying9 rfl) rfl ?_
        by_cases h27 : gs[k].name.size < 1
        · refine op_v (v_cmptA rfl rfl rfl) rfl ?_
          refine op_v (v_move rfl) rfl ?_
          refine op_skip rfl rfl (by simp [undef]) rfl ?_
          refine op_skip rfl rfl (by simp [undef]) rfl ?_
          refine op_skip rfl rfl (by simp [undef]) rfl ?_
          refine op_skip rfl rfl (by simp [undef]) rfl ?_
          refine op_v (v_pickt rfl rfl) rfl ?_
          refine op_v (v_move rfl) rfl ?_
          refine op_skip rfl rfl (by simp [undef]) rfl ?_
          refine op_skip rfl rfl (by simp [undef]) rfl ?_
          refine op_skip rfl rfl (by simp [undef]) rfl ?_
          refine op_v (v_pickt rfl rfl) rfl ?_
          refine op_v (v_move rfl) rfl ?_
          refine op_skip rfl rfl (by simp [undef]) rfl ?_
          refine op_skip rfl rfl (by simp [undef]) rfl ?_
          refine op_skip rfl rfl (by simp [undef]) rfl ?_
          refine op_v (v_pickt rfl rfl) rfl ?_
          refine op_v (v_move rfl) rfl ?_
          refine op_skip rfl rfl (by simp [undef]) rfl ?_
          refine op_skip rfl rfl (by simp [undef]) rfl ?_
          refine op_skip rfl rfl (by simp [undef]) rfl ?_
          refine op_v (v_pickt rfl rfl) rfl ?_
          refine op_v (v_move rfl) rfl ?_
          refine op_skip rfl rfl (by simp [undef]) rfl ?_
          refine op_skip rfl rfl (by simp [undef]) rfl ?_
          refine op_skip rfl rfl (by simp [undef]) rfl ?_
          refine op_v (v_pickt rfl rfl) rfl ?_
          refine ops_nil ?_
          refine post_next ?_
          refine code_cond_t rfl ?_
          refine code_seq ?_
          refine code_region ?_
          refine op_v (v_assign rfl) rfl ?_
          refine ops_nil ?_
          refine post_next ?_
          refine code_ret ?_
          refine post_ret_then ?_
          refine post_ret_block ?_
          refine post_ret_then ?_
          refine post_ret_then ?_
          refine post_ret_block ?_
          refine post_ret_then ?_
          refine post_ret (rs := [.tmp 2]) rfl (List.Perm.refl _) (.cons (.tmp rfl) .nil) (List.nil_sublist _) ?_
          exact ⟨by rw [hbad k hlt (by unfold badS; rw [nmEq_nil.2 h27]; rfl)]; rfl, rfl⟩
        · refine op_v (v_cmpfA rfl rfl rfl) rfl ?_
          refine op_v (v_move rfl) rfl ?_
          first
            | (refine op_want rfl rfl ?_
               refine op_v (v_fieldB 0 Try.underlying79 rfl rfl fz9 rfl) rfl ?_)
            | (refine op_skip rfl rfl (by simp [undef]) rfl ?_)
          refine op_want rfl rfl ?_
          refine op_v (v_loadA ty9 rfl rfl) rfl ?_
          refine op_want rfl rfl ?_
          refine op_v (v_lens Try.underlying9 rfl) rfl ?_
          by_cases h32 : 64 < gs[k].name.size
          · first
              | (refine op_want rfl rfl ?_
                 refine op_v (v_cmptA rfl rfl rfl) rfl ?_)
              | (refine op_skip rfl rfl (by simp [undef]) rfl ?_)
            refine op_v (v_pickf rfl rfl) rfl ?_
            refine op_v (v_move rfl) rfl ?_
            refine op_skip rfl rfl (by simp [undef]) rfl ?_
            refine op_skip rfl rfl (by simp [undef]) rfl ?_
            refine op_skip rfl rfl (by simp [undef]) rfl ?_
            refine op_v (v_pickt rfl rfl) rfl ?_
            refine op_v (v_move rfl) rfl ?_
            refine op_skip rfl rfl (by simp [undef]) rfl ?_
            refine op_skip rfl rfl (by simp [undef]) rfl ?_
            refine op_skip rfl rfl (by simp [undef]) rfl ?_
            refine op_v (v_pickt rfl rfl) rfl ?_
            refine op_v (v_move rfl) rfl ?_
            refine op_skip rfl rfl (by simp [undef]) rfl ?_
            refine op_skip rfl rfl (by simp [undef]) rfl ?_
            refine op_skip rfl rfl (by simp [undef]) rfl ?_
            refine op_v (v_pickt rfl rfl) rfl ?_
            refine op_v (v_move rfl) rfl ?_
            refine op_skip rfl rfl (by simp [undef]) rfl ?_
            refine op_skip rfl rfl (by simp [undef]) rfl ?_
            refine op_skip rfl rfl (by simp [undef]) rfl ?_
            refine op_v (v_pickt rfl rfl) rfl ?_
            refine ops_nil ?_
            refine post_next ?_
            refine code_cond_t rfl ?_
            refine code_seq ?_
            refine code_region ?_
            refine op_v (v_assign rfl) rfl ?_
            refine ops_nil ?_
            refine post_next ?_
            refine code_ret ?_
            refine post_ret_then ?_
            refine post_ret_block ?_
            refine post_ret_then ?_
            refine post_ret_then ?_
            refine post_ret_block ?_
            refine post_ret_then ?_
            refine post_ret (rs := [.tmp 2]) rfl (List.Perm.refl _) (.cons (.tmp rfl) .nil) (List.nil_sublist _) ?_
            exact ⟨by rw [hbad k hlt (by simp [badS, h32])]; rfl, rfl⟩
          · first
              | (refine op_want rfl rfl ?_
                 refine op_v (v_cmpfA rfl rfl rfl) rfl ?_)
              | (refine op_skip rfl rfl (by simp [undef]) rfl ?_)
            refine op_v (v_pickf rfl rfl) rfl ?_
            refine op_v (v_move rfl) rfl ?_
            first
              | (refine op_want rfl rfl ?_
                 refine op_v (v_fieldB 1 Try.underlying79 rfl rfl fz3 rfl) rfl ?_)
              | (refine op_skip rfl rfl (by simp [undef]) rfl ?_)
            refine op_want rfl rfl ?_
            refine op_v (v_loadA ty3 rfl rfl) rfl ?_
            by_cases h37 : gs[k].ar < 0
            · first
                | (refine op_want rfl rfl ?_
                   refine op_v (v_cmptA rfl rfl rfl) rfl ?_)
                | (refine op_skip rfl rfl (by simp [undef]) rfl ?_)
              refine op_v (v_pickf rfl rfl) rfl ?_
              refine op_v (v_move rfl) rfl ?_
              refine op_skip rfl rfl (by simp [undef]) rfl ?_
              refine op_skip rfl rfl (by simp [undef]) rfl ?_
              refine op_skip rfl rfl (by simp [undef]) rfl ?_
              refine op_v (v_pickt rfl rfl) rfl ?_
              refine op_v (v_move rfl) rfl ?_
              refine op_skip rfl rfl (by simp [undef]) rfl ?_
              refine op_skip rfl rfl (by simp [undef]) rfl ?_
              refine op_skip rfl rfl (by simp [undef]) rfl ?_
              refine op_v (v_pickt rfl rfl) rfl ?_
              refine op_v (v_move rfl) rfl ?_
              refine op_skip rfl rfl (by simp [undef]) rfl ?_
              refine op_skip rfl rfl (by simp [undef]) rfl ?_
              refine op_skip rfl rfl (by simp [undef]) rfl ?_
              refine op_v (v_pickt rfl rfl) rfl ?_
              refine ops_nil ?_
              refine post_next ?_
              refine code_cond_t rfl ?_
              refine code_seq ?_
              refine code_region ?_
              refine op_v (v_assign rfl) rfl ?_
              refine ops_nil ?_
              refine post_next ?_
              refine code_ret ?_
              refine post_ret_then ?_
              refine post_ret_block ?_
              refine post_ret_then ?_
              refine post_ret_then ?_
              refine post_ret_block ?_
              refine post_ret_then ?_
              refine post_ret (rs := [.tmp 2]) rfl (List.Perm.refl _) (.cons (.tmp rfl) .nil) (List.nil_sublist _) ?_
              exact ⟨by rw [hbad k hlt (by simp [badS, h37])]; rfl, rfl⟩
            · first
                | (refine op_want rfl rfl ?_
                   refine op_v (v_cmpfA rfl rfl rfl) rfl ?_)
                | (refine op_skip rfl rfl (by simp [undef]) rfl ?_)
              refine op_v (v_pickf rfl rfl) rfl ?_
              refine op_v (v_move rfl) rfl ?_
              first
                | (refine op_want rfl rfl ?_
                   refine op_v (v_fieldB 1 Try.underlying79 rfl rfl fz3 rfl) rfl ?_)
                | (refine op_skip rfl rfl (by simp [undef]) rfl ?_)
              refine op_want rfl rfl ?_
              refine op_v (v_loadA ty3 rfl rfl) rfl ?_
              by_cases h42 : 8 < gs[k].ar
              · first
                  | (refine op_want rfl rfl ?_
                     refine op_v (v_cmptA rfl rfl rfl) rfl ?_)
                  | (refine op_skip rfl rfl (by simp [undef]) rfl ?_)
                refine op_v (v_pickf rfl rfl) rfl ?_
                refine op_v (v_move rfl) rfl ?_
                refine op_skip rfl rfl (by simp [undef]) rfl ?_
                refine op_skip rfl rfl (by simp [undef]) rfl ?_
                refine op_skip rfl rfl (by simp [undef]) rfl ?_
                refine op_v (v_pickt rfl rfl) rfl ?_
                refine op_v (v_move rfl) rfl ?_
                refine op_skip rfl rfl (by simp [undef]) rfl ?_
                refine op_skip rfl rfl (by simp [undef]) rfl ?_
                refine op_skip rfl rfl (by simp [undef]) rfl ?_
                refine op_v (v_pickt rfl rfl) rfl ?_
                refine ops_nil ?_
                refine post_next ?_
                refine code_cond_t rfl ?_
                refine code_seq ?_
                refine code_region ?_
                refine op_v (v_assign rfl) rfl ?_
                refine ops_nil ?_
                refine post_next ?_
                refine code_ret ?_
                refine post_ret_then ?_
                refine post_ret_block ?_
                refine post_ret_then ?_
                refine post_ret_then ?_
                refine post_ret_block ?_
                refine post_ret_then ?_
                refine post_ret (rs := [.tmp 2]) rfl (List.Perm.refl _) (.cons (.tmp rfl) .nil) (List.nil_sublist _) ?_
                exact ⟨by rw [hbad k hlt (by simp [badS, h42])]; rfl, rfl⟩
              · first
                  | (refine op_want rfl rfl ?_
                     refine op_v (v_cmpfA rfl rfl rfl) rfl ?_)
                  | (refine op_skip rfl rfl (by simp [undef]) rfl ?_)
                refine op_v (v_pickf rfl rfl) rfl ?_
                refine op_v (v_move rfl) rfl ?_
                first
                  | (refine op_want rfl rfl ?_
                     refine op_v (v_fieldB 2 Try.underlying79 rfl rfl fz3 rfl) rfl ?_)
                  | (refine op_skip rfl rfl (by simp [undef]) rfl ?_)
                refine op_want rfl rfl ?_
                refine op_v (v_loadA ty3 rfl rfl) rfl ?_
                by_cases h47 : gs[k].wt < 1
                · first
                    | (refine op_want rfl rfl ?_
                       refine op_v (v_cmptA rfl rfl rfl) rfl ?_)
                    | (refine op_skip rfl rfl (by simp [undef]) rfl ?_)
                  refine op_v (v_pickf rfl rfl) rfl ?_
                  refine op_v (v_move rfl) rfl ?_
                  refine op_skip rfl rfl (by simp [undef]) rfl ?_
                  refine op_skip rfl rfl (by simp [undef]) rfl ?_
                  refine op_skip rfl rfl (by simp [undef]) rfl ?_
                  refine op_v (v_pickt rfl rfl) rfl ?_
                  refine ops_nil ?_
                  refine post_next ?_
                  refine code_cond_t rfl ?_
                  refine code_seq ?_
                  refine code_region ?_
                  refine op_v (v_assign rfl) rfl ?_
                  refine ops_nil ?_
                  refine post_next ?_
                  refine code_ret ?_
                  refine post_ret_then ?_
                  refine post_ret_block ?_
                  refine post_ret_then ?_
                  refine post_ret_then ?_
                  refine post_ret_block ?_
                  refine post_ret_then ?_
                  refine post_ret (rs := [.tmp 2]) rfl (List.Perm.refl _) (.cons (.tmp rfl) .nil) (List.nil_sublist _) ?_
                  exact ⟨by rw [hbad k hlt (by simp [badS, h47])]; rfl, rfl⟩
                · first
                    | (refine op_want rfl rfl ?_
                       refine op_v (v_cmpfA rfl rfl rfl) rfl ?_)
                    | (refine op_skip rfl rfl (by simp [undef]) rfl ?_)
                  refine op_v (v_pickf rfl rfl) rfl ?_
                  refine op_v (v_move rfl) rfl ?_
                  first
                    | (refine op_want rfl rfl ?_
                       refine op_v (v_fieldB 2 Try.underlying79 rfl rfl fz3 rfl) rfl ?_)
                    | (refine op_skip rfl rfl (by simp [undef]) rfl ?_)
                  refine op_want rfl rfl ?_
                  refine op_v (v_loadA ty3 rfl rfl) rfl ?_
                  by_cases h52 : 1000 < gs[k].wt
                  · first
                      | (refine op_want rfl rfl ?_
                         refine op_v (v_cmptA rfl rfl rfl) rfl ?_)
                      | (refine op_skip rfl rfl (by simp [undef]) rfl ?_)
                    refine op_v (v_pickf rfl rfl) rfl ?_
                    refine ops_nil ?_
                    refine post_next ?_
                    refine code_cond_t rfl ?_
                    refine code_seq ?_
                    refine code_region ?_
                    refine op_v (v_assign rfl) rfl ?_
                    refine ops_nil ?_
                    refine post_next ?_
                    refine code_ret ?_
                    refine post_ret_then ?_
                    refine post_ret_block ?_
                    refine post_ret_then ?_
                    refine post_ret_then ?_
                    refine post_ret_block ?_
                    refine post_ret_then ?_
                    refine post_ret (rs := [.tmp 2]) rfl (List.Perm.refl _) (.cons (.tmp rfl) .nil) (List.nil_sublist _) ?_
                    exact ⟨by rw [hbad k hlt (by simp [badS, h52])]; rfl, rfl⟩
                  · first
                      | (refine op_want rfl rfl ?_
                         refine op_v (v_cmpfA rfl rfl rfl) rfl ?_)
                      | (refine op_skip rfl rfl (by simp [undef]) rfl ?_)
                    refine op_v (v_pickf rfl rfl) rfl ?_
                    refine ops_nil ?_
                    refine post_next ?_
                    refine code_cond_f rfl ?_
                    refine code_skip ?_
                    refine post_next ?_
                    refine code_seq ?_
                    refine code_region ?_
                    refine op_v (v_assign rfl) rfl ?_
                    refine ops_nil ?_
                    refine post_next ?_
                    refine code_block ?_
                    refine code_loop (fun m σ' I' δ' => ∃ j : Nat, m = k - j ∧ j ≤ k ∧ σ' = [(0, .slice ad gs.length c), (3, .int .i64 k), (4, .pointer (some ⟨b4, 0, none⟩)), (5, .int .i64 j)] ∧ I = I' ∧ δ' = [.box b4 79 gs[k].cs] ∧ ∀ i (h : i < gs.length), i < j → nmEq gs[i].name gs[k].name = false) k [(0, .slice ad gs.length c), (3, .int .i64 k), (4, .pointer (some ⟨b4, 0, none⟩)), (5, .int .i64 (0 : Nat))] ⟨0, rfl, Nat.zero_le _, rfl, rfl, rfl, fun i _ h => by omega⟩ ⟨rfl, rfl, rfl, rfl, trivial⟩ ?_
                    rintro m _ _ _ ⟨j, rfl, hj, rfl, rfl, rfl, hq⟩
                    refine code_seq ?_
                    refine code_seq ?_
                    refine code_region ?_
                    refine op_v (v_move rfl) rfl ?_
                    refine op_v (v_move rfl) rfl ?_
                    refine op_v (v_cmp rfl rfl rfl) rfl ?_
                    refine ops_nil ?_
                    refine post_next ?_
                    refine code_cond rfl (fun hc3 => ?_) (fun hc3 => ?_)
                    · have hltj : j < k := by simpa using hc3
                      have hltj2 : j < gs.length := by omega
                      have hs2 := (hat j hltj2).isSome
                      refine code_skip ?_
                      refine post_next ?_
                      refine code_seq ?_
                      refine code_block ?_
                      refine code_seq ?_
                      refine code_draw (.fl 0 (.fl 1 (.fl 2 (.fl 3 (.fl 4 (.fl 5 (.fl 6 (.fl 7 .done)))))))) (fun _ => _) mixed (by kernel_rfl) (by kernel_rfl) (fun _ => (List.Sublist.refl _)) ?_
                      refine e_fl rfl rfl (fun hs_ => PF.mk rfl (v_move rfl) hs_) ?_
                      refine e_fl rfl rfl (fun hs_ => PF.mk rfl (v_move rfl) hs_) ?_
                      refine e_fl rfl rfl (fun hs_ => PF.mk rfl (v_indexA Try.underlying22 sz79 rfl rfl) hs_) ?_
                      refine e_fl rfl rfl (fun hs_ => PF.mk rfl (v_fieldI 0 Try.underlying79 rfl rfl fz9 rfl (by assumption)) hs_) ?_
                      refine e_fl rfl rfl (fun hs_ => PF.mk rfl (v_loadI0 ty9 (hat j hltj2) rfl rfl rfl) hs_) ?_
                      refine e_fl rfl rfl (fun hs_ => PF.mk rfl (v_fieldB 0 Try.underlying79 rfl rfl fz9 rfl) hs_) ?_
                      refine e_fl rfl rfl (fun hs_ => PF.mk rfl (v_loadA ty9 rfl rfl) hs_) ?_
                      refine e_fl rfl rfl (fun hs_ => PF.mk rfl (v_eqs (z := nmEq gs[j].name gs[k].name) rfl rfl rfl) hs_) ?_
                      refine e_done ?_
                      refine post_next ?_
                      refine code_cond rfl (fun hc4 => ?_) (fun hc4 => ?_)
                      · have h66 : nmEq gs[j].name gs[k].name = true := hc4
                        refine code_seq ?_
                        refine code_region ?_
                        refine op_v (v_assign rfl) rfl ?_
                        refine ops_nil ?_
                        refine post_next ?_
                        refine code_ret ?_
                        refine post_ret_block ?_
                        refine post_ret_then ?_
                        refine post_ret_then ?_
                        refine post_ret_block ?_
                        refine post_ret_block ?_
                        refine post_ret_then ?_
                        refine post_ret_then ?_
                        refine post_ret_block ?_
                        refine post_ret_then ?_
                        refine post_ret (rs := [.tmp 2]) rfl (List.Perm.refl _) (.cons (.tmp rfl) .nil) (List.nil_sublist _) ?_
                        exact ⟨by rw [hbad k hlt (by have hx := any_take_true (p := fun s => nmEq s.name gs[k].name) (l := gs) j k hltj (by omega) h66; unfold badS; rw [hx]; simp)]; rfl, rfl⟩
                      · have h66 : nmEq gs[j].name gs[k].name = false := hc4
                        refine code_skip ?_
                        refine post_out ?_
                        refine post_next ?_
                        refine code_region ?_
                        refine op_v (v_move rfl) rfl ?_
                        refine op_v (v_addb rfl rfl rfl (by omega)) rfl ?_
                        refine op_v (v_assign rfl) rfl ?_
                        refine ops_nil ?_
                        refine post_again (k - (j + 1)) [(0, .slice ad gs.length c), (3, .int .i64 k), (4, .pointer (some ⟨b4, 0, none⟩)), (5, .int .i64 (j + 1 : Nat))] (by omega) ⟨j + 1, rfl, hltj, rfl, rfl, rfl, ?_⟩ ⟨rfl, rfl, rfl, rfl, trivial⟩
                        intro i h hi
                        rcases Nat.lt_or_ge i j with hik | hik
                        · exact hq i h hik
                        have hik2 : i = j := by omega
                        subst hik2
                        exact h66
                    · have hgej : j = k := by simp at hc3; omega
                      refine code_exit ?_
                      refine post_exit_then ?_
                      refine post_exit_then ?_
                      refine post_exit ?_
                      refine post_out ?_
                      refine post_next ?_
                      refine code_region ?_
                      refine op_v (v_move rfl) rfl ?_
                      refine op_v (v_addb rfl rfl rfl (by omega)) rfl ?_
                      refine op_v (v_assign rfl) rfl ?_
                      refine ops_nil ?_
                      refine PostJ.view View.nil ?_
                      refine post_again (gs.length - (k + 1)) [(0, .slice ad gs.length c), (3, .int .i64 (k + 1 : Nat))] (by omega) ⟨k + 1, rfl, hlt, rfl, rfl, rfl, ?_⟩ ⟨rfl, rfl, trivial⟩
                      intro i h hi
                      rcases Nat.lt_or_ge i k with hik | hik
                      · exact hp i h hik
                      have hik2 : i = k := by omega
                      subst hik2
                      have h35 : nmEq gs[i].name ⟨#[]⟩ = false := by { cases hn : nmEq gs[i].name ⟨#[]⟩; rfl; exact absurd (nmEq_nil.1 hn) h27 }
                      have h43 := any_take_false (p := fun s => nmEq s.name gs[i].name) (k := i) (fun i2 h2 h3 => hq i2 h2 (by omega)) (by omega)
                      unfold badS
                      rw [h35, h43]
                      simp; omega
      · have hge : k = gs.length := by simp at hc1; omega
        refine code_exit ?_
        refine post_exit_then ?_
        refine post_exit_then ?_
        refine post_exit ?_
        refine post_next ?_
        refine code_seq ?_
        refine code_region ?_
        refine op_v (v_move rfl) rfl ?_
        refine op_v (v_indexA Try.underlying22 sz79 rfl rfl) rfl ?_
        refine op_v (v_loadI0 (m := 0) ty79 (by have := hat 0 h0; simpa using this) rfl rfl rfl) rfl ?_
        refine op_v (v_build bl79 rfl rfl) rfl ?_
        refine op_v (v_eqSy (a := gs[0]'h0) (b := truthS) (z := syEq (gs[0]'h0) truthS) syTy rfl rfl rfl) rfl ?_
        refine op_v (v_assign rfl) rfl ?_
        refine ops_nil ?_
        refine post_next ?_
        refine code_ret ?_
        refine post_ret (rs := [.tmp 2]) rfl (List.Perm.refl _) (.cons (.tmp rfl) .nil) (List.nil_sublist _) ?_
        have hall : ∀ i (h : i < gs.length), badS (gs.take i) gs[i] = false := fun i h => hp i h (by omega)
        have : rightG gs = syEq (gs[0]'h0) truthS := by
          cases hq : syEq (gs[0]'h0) truthS with
          | true => exact rightG_of h0 (by omega) hq hall
          | false =>
            cases hr : rightG gs with
            | false => rfl
            | true =>
              have h1 := chkG_head h0 (by rw [hq]; simp)
              simp [chkG, hr] at h1
        exact ⟨by rw [this]; rfl, rfl⟩

theorem Depth_does : ∀ (n : Nat) (t : T), t.size ≤ n → t.size ≤ 1000000000 → ∀ (I : Imm) (v : Value), RepT I v t →
    Does Try.prog 158 [v] I [] (fun v I' δ' => v = .int .i64 (depT t) ∧ δ' = []) := by
  intro n
  induction n with
  | zero => intro t ht; have := t.size_pos; omega
  | succ n ih =>
    intro t ht hbig I v hv
    obtain ⟨h, ts⟩ := t
    obtain ⟨ad, c, ss, rfl, hr, hc, hb, hat, hsub⟩ := hv.elim
    have hsz : (T.mk h ts).size = 1 + sizeL ts := by simp [T.size]
    have hds := depT_size (.mk h ts)
    refine Does.intro Try.func158 rfl Try.ntmps158 rfl fun w0 => ?_
    refine code_seq ?_
    refine code_region ?_
    refine o_box rfl rfl rfl (fun b1 => ?_)
    refine op_v (v_assign rfl) rfl ?_
    refine ops_nil ?_
    refine post_next ?_
    refine code_seq ?_
    refine code_region ?_
    refine op_v (v_assign rfl) rfl ?_
    refine ops_nil ?_
    refine post_next ?_
    refine code_seq ?_
    refine code_seq ?_
    refine code_region ?_
    refine op_v (v_assign rfl) rfl ?_
    refine ops_nil ?_
    refine post_next ?_
    refine code_block ?_
    refine code_loop (fun m σ' I' δ' => ∃ k : Nat, m = ts.length - k ∧ k ≤ ts.length ∧ σ' = [(1, .pointer (some ⟨b1, 0, none⟩)), (3, .int .i64 (depL (ts.take k) : Nat)), (4, .int .i64 k)] ∧ I.le I' ∧ δ' = [.box b1 47 [.int .i64 h, .slice ad ts.length c]]) ts.length [(1, .pointer (some ⟨b1, 0, none⟩)), (3, .int .i64 (0 : Nat)), (4, .int .i64 (0 : Nat))] ⟨0, rfl, Nat.zero_le _, rfl, Imm.le_refl _, rfl⟩ ⟨rfl, rfl, rfl, trivial⟩ ?_
    rintro m _ I0 _ ⟨k, rfl, hk, rfl, hI0, rfl⟩
    refine code_seq ?_
    refine code_seq ?_
    refine code_region ?_
    refine op_v (v_move rfl) rfl ?_
    refine op_v (v_fieldB 1 Try.underlying47 rfl rfl fz45 rfl) rfl ?_
    refine op_v (v_loadA ty45 rfl rfl) rfl ?_
    refine op_v (v_len Try.underlying45 rfl) rfl ?_
    refine op_v (v_cmp rfl rfl rfl) rfl ?_
    refine ops_nil ?_
    refine post_next ?_
    refine code_cond rfl (fun hc0 => ?_) (fun hc0 => ?_)
    · have hlt : k < ts.length := by simpa using hc0
      have hs1 := (hat k hlt).isSome
      have hm := sizeL_mem ts k hlt
      refine code_skip ?_
      refine post_next ?_
      refine code_seq ?_
      refine code_block ?_
      refine code_region ?_
      refine op_v (v_move rfl) rfl ?_
      refine op_v (v_fieldB 1 Try.underlying47 rfl rfl fz45 rfl) rfl ?_
      refine op_v (v_loadA ty45 rfl rfl) rfl ?_
      refine op_v (v_move rfl) rfl ?_
      refine op_v (v_indexA Try.underlying45 sz47 rfl rfl) rfl ?_
      refine op_v (v_loadI0 ty47 ((hat k hlt).mono hI0) rfl rfl rfl) rfl ?_
      refine op_call pl158 rfl rfl ((ih ts[k] (by omega) (by omega) _ _ ((hsub k hlt).mono hI0))) Parts.none ?_
      rintro _ I18 _ hI18 ⟨rfl, rfl⟩
      refine op_v (v_max rfl rfl) rfl ?_
      refine op_v (v_assign rfl) rfl ?_
      refine ops_nil ?_
      refine post_out ?_
      refine post_next ?_
      refine code_region ?_
      refine op_v (v_move rfl) rfl ?_
      refine op_v (v_addb rfl rfl rfl (by omega)) rfl ?_
      refine op_v (v_assign rfl) rfl ?_
      refine ops_nil ?_
      refine post_again (ts.length - (k + 1)) [(1, .pointer (some ⟨b1, 0, none⟩)), (3, .int .i64 (max (depL (ts.take k) : Nat) (depT ts[k] : Nat))), (4, .int .i64 ((k + 1 : Nat) : Int))] (by omega) ⟨k + 1, rfl, hlt, by rw [depL_take ts k hlt]; congr 4; omega, Imm.le_trans hI0 hI18, rfl⟩ ⟨rfl, rfl, rfl, trivial⟩
    · have hge : k = ts.length := by simp at hc0; omega
      refine code_exit ?_
      refine post_exit_then ?_
      refine post_exit_then ?_
      refine post_exit ?_
      refine post_next ?_
      refine code_seq ?_
      refine code_region ?_
      rw [hge, List.take_length]
      have h2 : depT (T.mk h ts) = 1 + depL ts := by simp [depT]
      have hdl : depL ts ≤ 1000000000 := by omega
      refine op_v (v_move rfl) rfl ?_
      refine op_v (v_addb rfl rfl rfl (by omega)) rfl ?_
      refine op_v (v_assign rfl) rfl ?_
      refine ops_nil ?_
      refine post_next ?_
      refine code_ret ?_
      refine post_ret (rs := [.tmp 2]) rfl (List.Perm.refl _) (.cons (.tmp rfl) .nil) (List.nil_sublist _) ?_
      exact ⟨by simp only [outV, depT]; congr 2; omega, rfl⟩
end Go.Proofs.Ytdbadicpbmndbaa
