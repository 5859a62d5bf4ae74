/- Walks: the document's answers on how two terms stand. -/
import Derived.Test.YtegceppoioeeaaaRc
import Derived.Test.YtegceppoioeeaaaZ4
set_option linter.unusedVariables false
set_option linter.unusedSimpArgs false
/- short -/
namespace Go.Proofs.Ytegceppoioeeaaa
open Go Lg

theorem OkG.sums {gs : List Sy} {t : T} (hO : OkG gs t) : ∀ k, k ≤ t.args.length → 0 ≤ sumV gs (visL (t.args.take k)) ∧ sumV gs (visL (t.args.take k)) ≤ 400000 := fun k hk => by
  have htot := wgtG_range hO
  have hheads := hO.heads
  have hwB := wB_range hO.right (hheads (true, t) (by rw [visT_eq]; exact List.mem_cons_self ..))
  simp only at hwB
  have e : sumV gs (visL t.args) = sumV gs (visL (t.args.take k)) + sumV gs (visL (t.args.drop k)) := by rw [← sumV_app, ← visL_app, List.take_append_drop]
  have hin : ∀ x ∈ visL t.args, x.2.head < 0 ∨ (0 ≤ x.2.head ∧ x.2.head < gs.length) := fun x hx => hheads x (by rw [visT_eq]; exact List.mem_cons_of_mem _ hx)
  have e2 : visL t.args = visL (t.args.take k) ++ visL (t.args.drop k) := by rw [← visL_app, List.take_append_drop]
  have h5 := sumV_nonneg hO.right (visL (t.args.take k)) (fun x hx => hin x (by rw [e2]; exact List.mem_append_left _ hx))
  have h6 := sumV_nonneg hO.right (visL (t.args.drop k)) (fun x hx => hin x (by rw [e2]; exact List.mem_append_right _ hx))
  have h7 := wgtG_eq gs t
  omega
theorem rweight_does {gs : List Sy} : ∀ (n : Nat) (t : T), t.size ≤ n → OkG gs t → ∀ (I : Imm) (vg v : Value), RepG I vg gs → RepT I v t →
    Does Try.prog 133 [vg, v] I [] (fun v _ δ' => v = .int .i64 (wgtG gs t) ∧ δ' = []) := by
  intro n
  induction n with
  | zero => intro t h; have := t.size_pos; omega
  | succ n ih =>
    intro t hn hO I vg v hg hv
    have hsz := size_eqT t
    have hsums := hO.sums
    have hwe := wgtG_eq gs t
    have hhd := hO.heads (true, t) (by rw [visT_eq]; exact List.mem_cons_self ..)
    have hwB := wB_range hO.right hhd
    simp only at hhd hwB
    obtain ⟨ga, gc, rfl⟩ := hg.shape
    obtain ⟨_, hgc, hgb, hgat, hgok⟩ := hg.open
    obtain ⟨a0, c0, rfl, hr0⟩ := hv.shape
    obtain ⟨_, _, _, hc0, hb0, ss, hat, hsub⟩ := hv.open
    refine Does.intro Try.func133 rfl Try.ntmps133 rfl fun w0 => ?_
    refine code_seq ?_
    refine code_region ?_
    refine o_box rfl rfl rfl (fun b3 => ?_)
    refine op_v (v_assign rfl) rfl ?_
    refine ops_nil ?_
    refine post_next ?_
    refine code_seq ?_
    refine code_seq ?_
    refine code_region ?_
    first | refine op_v (v_fieldB 0 Try.underlying25 rfl rfl fz3 rfl) rfl ?_ | refine op_v (v_fieldI 0 Try.underlying25 rfl rfl fz3 rfl (by assumption)) rfl ?_ | refine op_v (v_field Try.underlying25 rfl fz3 rfl rfl) rfl ?_
    refine op_v (v_loadA ty3 rfl rfl) rfl ?_
    by_cases h9 : t.head < 0
    · first | refine op_v (v_cmptA rfl rfl rfl) rfl ?_ | refine op_v (v_cmpfA rfl rfl rfl) rfl ?_ | refine op_v (v_cmp rfl rfl rfl) rfl ?_
      refine ops_nil ?_
      refine post_next ?_
      refine code_cond_t rfl ?_
      refine code_seq ?_
      refine code_region ?_
      refine op_v (v_assign rfl) rfl ?_
      refine ops_nil ?_
      refine post_next ?_
      refine code_ret ?_
      refine post_ret_then ?_
      refine post_ret (rs := [.tmp 4]) rfl (List.Perm.refl _) (.cons (.tmp rfl) .nil) (List.nil_sublist _) ?_
      exact ⟨by have hl := hO.leaf h9; rw [hwe, hl]; simp [wB, h9, visL, sumV, outV], rfl⟩
    · have hlt : t.head.toNat < gs.length := by omega
      have hs0 := (hgat _ hlt).isSome
      have hwq : wB gs t.head = (gs[t.head.toNat]'hlt).wt := by rw [wB, if_neg h9, wtG_at (by omega) (by omega)]
      first | refine op_v (v_cmptA rfl rfl rfl) rfl ?_ | refine op_v (v_cmpfA rfl rfl rfl) rfl ?_ | refine op_v (v_cmp rfl rfl rfl) rfl ?_
      refine ops_nil ?_
      refine post_next ?_
      refine code_cond_f rfl ?_
      refine code_skip ?_
      refine post_next ?_
      refine code_seq ?_
      refine code_region ?_
      refine op_v (v_move rfl) rfl ?_
      first | refine op_v (v_fieldB 0 Try.underlying25 rfl rfl fz3 rfl) rfl ?_ | refine op_v (v_fieldI 0 Try.underlying25 rfl rfl fz3 rfl (by assumption)) rfl ?_ | refine op_v (v_field Try.underlying25 rfl fz3 rfl rfl) rfl ?_
      refine op_v (v_loadA ty3 rfl rfl) rfl ?_
      first | refine op_v (v_indexA Try.underlying22 sz71 rfl rfl) rfl ?_ | refine op_v (v_indexIA Try.underlying22 sz71 rfl rfl) rfl ?_
      first | refine op_v (v_fieldB 2 Try.underlying71 rfl rfl fz3 rfl) rfl ?_ | refine op_v (v_fieldI 2 Try.underlying71 rfl rfl fz3 rfl (by assumption)) rfl ?_ | refine op_v (v_field Try.underlying71 rfl fz3 rfl rfl) rfl ?_
      first | refine op_v (v_loadI0 ty3 (hgat _ hlt) rfl rfl rfl) rfl ?_ | refine op_v (v_loadI ty3 (hgat _ hlt) rfl rfl rfl) rfl ?_
      rw [← hwq]
      refine op_v (v_assign rfl) rfl ?_
      refine ops_nil ?_
      refine post_next ?_
      refine code_seq ?_
      refine code_seq ?_
      refine code_region ?_
      refine op_v (v_assign rfl) rfl ?_
      refine ops_nil ?_
      refine post_next ?_
      refine code_block ?_
      refine code_loop (fun m σ' I' δ' => ∃ k : Nat, m = t.args.length - k ∧ k ≤ t.args.length ∧ σ' = [(0, .slice ga gs.length gc), (3, .pointer (some ⟨b3, 0, none⟩)), (5, .int .i64 (wB gs t.head + sumV gs (visL (t.args.take k)))), (6, .int .i64 k)] ∧ I.le I' ∧ δ' = [.box b3 25 [.int .i64 t.head, .slice a0 t.args.length c0]]) t.args.length [(0, .slice ga gs.length gc), (3, .pointer (some ⟨b3, 0, none⟩)), (5, .int .i64 (wB gs t.head)), (6, .int .i64 (0 : Nat))] ⟨0, rfl, Nat.zero_le _, by simp [visL, sumV], Imm.le_refl _, rfl⟩ ⟨rfl, rfl, rfl, rfl, trivial⟩ ?_
      rintro m _ I0 _ ⟨k, rfl, hk, rfl, hI0, rfl⟩
      have hsk := hsums k hk
      refine code_seq ?_
      refine code_seq ?_
      refine code_region ?_
      refine op_v (v_move rfl) rfl ?_
      first | refine op_v (v_fieldB 1 Try.underlying25 rfl rfl fz23 rfl) rfl ?_ | refine op_v (v_fieldI 1 Try.underlying25 rfl rfl fz23 rfl (by assumption)) rfl ?_ | refine op_v (v_field Try.underlying25 rfl fz23 rfl rfl) rfl ?_
      refine op_v (v_loadA ty23 rfl rfl) rfl ?_
      refine op_v (v_len Try.underlying23 rfl) rfl ?_
      first | refine op_v (v_cmptA rfl rfl rfl) rfl ?_ | refine op_v (v_cmpfA rfl rfl rfl) rfl ?_ | refine op_v (v_cmp rfl rfl rfl) rfl ?_
      refine ops_nil ?_
      refine post_next ?_
      refine code_cond rfl (fun hc1 => ?_) (fun hc1 => ?_)
      · have hltk : k < t.args.length := by simpa using hc1
        have hs1 := (hat k hltk).isSome
        have hm := sizeL_mem t.args k hltk
        have hch := (hO.child k hltk).1
        have hwc := wgtG_range hch
        refine code_skip ?_
        refine post_next ?_
        refine code_seq ?_
        refine code_block ?_
        refine code_region ?_
        refine op_v (v_move rfl) rfl ?_
        refine op_v (v_move rfl) rfl ?_
        first | refine op_v (v_fieldB 1 Try.underlying25 rfl rfl fz23 rfl) rfl ?_ | refine op_v (v_fieldI 1 Try.underlying25 rfl rfl fz23 rfl (by assumption)) rfl ?_ | refine op_v (v_field Try.underlying25 rfl fz23 rfl rfl) rfl ?_
        refine op_v (v_loadA ty23 rfl rfl) rfl ?_
        refine op_v (v_move rfl) rfl ?_
        first | refine op_v (v_indexA Try.underlying23 sz25 rfl rfl) rfl ?_ | refine op_v (v_indexIA Try.underlying23 sz25 rfl rfl) rfl ?_
        first | refine op_v (v_loadI0 ty25 ((hat k hltk).mono hI0) rfl rfl rfl) rfl ?_ | refine op_v (v_loadI ty25 ((hat k hltk).mono hI0) rfl rfl rfl) rfl ?_
        refine op_call pl133 rfl rfl ((ih t.args[k] (by omega) hch _ _ _ (hg.mono hI0) ((hsub k hltk).mono hI0))) Parts.none ?_
        rintro _ I30 _ hI30 ⟨rfl, rfl⟩
        first | refine op_v (v_addb rfl rfl rfl (by omega)) rfl ?_ | refine op_v (v_add rfl rfl) rfl ?_
        refine op_v (v_assign rfl) rfl ?_
        refine ops_nil ?_
        refine post_out ?_
        refine post_next ?_
        refine code_region ?_
        refine op_v (v_move rfl) rfl ?_
        first | refine op_v (v_addb rfl rfl rfl (by omega)) rfl ?_ | refine op_v (v_add rfl rfl) rfl ?_
        refine op_v (v_assign rfl) rfl ?_
        refine ops_nil ?_
        refine post_again (t.args.length - (k + 1)) [(0, .slice ga gs.length gc), (3, .pointer (some ⟨b3, 0, none⟩)), (5, .int .i64 (wB gs t.head + sumV gs (visL (t.args.take k)) + wgtG gs t.args[k])), (6, .int .i64 (k + 1 : Nat))] (by omega) ⟨k + 1, rfl, hltk, by rw [visL_take t.args k hltk, sumV_app, sumV_T, Int.add_assoc], Imm.leA, rfl⟩ ⟨rfl, rfl, rfl, rfl, trivial⟩
      · have hge : k = t.args.length := by simp at hc1; omega
        refine code_exit ?_
        refine post_exit_then ?_
        refine post_exit_then ?_
        refine post_exit ?_
        refine post_next ?_
        refine code_seq ?_
        refine code_region ?_
        refine op_v (v_move rfl) rfl ?_
        refine op_v (v_assign rfl) rfl ?_
        refine ops_nil ?_
        refine post_next ?_
        refine code_ret ?_
        refine post_ret (rs := [.tmp 4]) rfl (List.Perm.refl _) (.cons (.tmp rfl) .nil) (List.nil_sublist _) ?_
        exact ⟨by rw [hge, List.take_length, ← hwe]; rfl, rfl⟩
theorem RWeight_does {gs : List Sy} {t : T} (hO : OkG gs t) {I : Imm} {vg v : Value} (hg : RepG I vg gs) (hv : RepT I v t) :
    Does Try.prog 120 [vg, v] I [] (fun v _ δ' => v = .tuple #[.int .i64 (wgtG gs t), .int .i64 0] ∧ δ' = []) := by
  have hsz := chkT_size hO.chk
  have hz := termG_ok.2 hO
  obtain ⟨a0, c0, rfl, hr0⟩ := hv.shape
  refine Does.intro Try.func120 rfl Try.ntmps120 rfl fun w0 => ?_
  refine code_seq ?_
  refine code_region ?_
  refine o_box rfl rfl rfl (fun b3 => ?_)
  refine op_v (v_assign rfl) rfl ?_
  refine op_v (v_assign rfl) rfl ?_
  refine ops_nil ?_
  refine post_next ?_
  refine code_seq ?_
  refine code_region ?_
  refine op_v (v_move rfl) rfl ?_
  refine op_v (v_loadA ty25 rfl rfl) rfl ?_
  refine op_call pl63 rfl rfl ((RTerm_does (hg.mono Imm.leA) (hv.mono Imm.leA) (by omega))) Parts.none ?_
  rintro _ I9 _ hI9 ⟨rfl, rfl⟩
  rw [hz]
  refine op_v (v_assign rfl) rfl ?_
  refine ops_nil ?_
  refine post_next ?_
  refine code_seq ?_
  refine code_seq ?_
  refine code_region ?_
  refine op_v (v_move rfl) rfl ?_
  first | refine op_v (v_cmptA rfl rfl rfl) rfl ?_ | refine op_v (v_cmpfA rfl rfl rfl) rfl ?_ | refine op_v (v_cmp rfl rfl rfl) rfl ?_
  refine ops_nil ?_
  refine post_next ?_
  refine code_cond_f rfl ?_
  refine code_skip ?_
  refine post_next ?_
  refine code_seq ?_
  refine code_region ?_
  refine op_v (v_move rfl) rfl ?_
  refine op_v (v_loadA ty25 rfl rfl) rfl ?_
  refine op_call pl133 rfl rfl ((rweight_does _ _ (Nat.le_refl _) hO _ _ _ (hg.mono Imm.leA) (hv.mono Imm.leA))) Parts.none ?_
  rintro _ I15 _ hI15 ⟨rfl, rfl⟩
  refine op_v (v_assign rfl) rfl ?_
  refine op_v (v_assign rfl) rfl ?_
  refine ops_nil ?_
  refine post_next ?_
  refine code_ret ?_
  refine post_ret (rs := [.tmp 4, .tmp 5]) rfl (List.Perm.refl _) (.cons (.tmp rfl) (.cons (.tmp rfl) .nil)) (List.nil_sublist _) ?_
  exact ⟨rfl, rfl⟩
theorem vleB_of {a b : T} {ys : List Int} (hy : VarsOf b ys) (h : ∀ n ∈ ys, cn b (-1 - n) ≤ cn a (-1 - n)) : vleB a b = true := vleB_iff.2 fun k hk => by
  by_cases hm : k ∈ hds b
  · have := h (-1 - k) ((hy _).2 ⟨by omega, by rw [show -1 - (-1 - k) = k by omega]; exact hm⟩)
    rwa [show -1 - (-1 - k) = k by omega] at this
  · have : cn b k = 0 := List.count_eq_zero.2 hm
    omega
theorem often_does {I : Imm} {va vb : Value} {a b : T} (hva : RepT I va a) (hvb : RepT I vb b) (ha : chkT a = 0) (hb : chkT b = 0) :
    Does Try.prog 119 [va, vb] I [] (fun v _ δ' => v = .bool (vleB a b) ∧ δ' = []) := by
  have hsa := chkT_size ha
  have hsb := chkT_size hb
  obtain ⟨a0, ac, rfl, _⟩ := hva.shape
  obtain ⟨b0, bc, rfl, _⟩ := hvb.shape
  refine Does.intro Try.func119 rfl Try.ntmps119 rfl fun w0 => ?_
  refine code_seq ?_
  refine code_region ?_
  refine o_box rfl rfl rfl (fun b2 => ?_)
  refine o_box rfl rfl rfl (fun b3 => ?_)
  refine op_v (v_assign rfl) rfl ?_
  refine ops_nil ?_
  refine post_next ?_
  refine code_seq ?_
  refine code_region ?_
  refine op_v (v_loadA ty25 rfl rfl) rfl ?_
  refine op_call pl131 rfl rfl ((RVars_does _ _ (Nat.le_refl _) hb _ _ (hvb.mono Imm.leA))) Parts.none ?_
  rintro v8 I8 _ hI8 ⟨⟨ys, ⟨yd, yc, ys, hyc, hyb, hyat, hyr⟩, hys, hyl⟩, rfl⟩
  refine op_v (v_assign rfl) rfl ?_
  refine ops_nil ?_
  refine post_next ?_
  refine code_seq ?_
  refine code_seq ?_
  refine code_region ?_
  refine op_v (v_assign rfl) rfl ?_
  refine ops_nil ?_
  refine post_next ?_
  refine code_block ?_
  refine code_loop (fun m σ' I' δ' => ∃ j : Nat, m = ys.length - j ∧ j ≤ ys.length ∧ σ' = [(2, .pointer (some ⟨b2, 0, none⟩)), (3, .pointer (some ⟨b3, 0, none⟩)), (5, .slice yd ys.length yc), (6, .int .i64 j)] ∧ I8.le I' ∧ δ' = [.box b3 25 [.int .i64 b.head, .slice b0 b.args.length bc], .box b2 25 [.int .i64 a.head, .slice a0 a.args.length ac]] ∧ ∀ i (h : i < ys.length), i < j → cn b (-1 - ys[i]) ≤ cn a (-1 - ys[i])) ys.length [(2, .pointer (some ⟨b2, 0, none⟩)), (3, .pointer (some ⟨b3, 0, none⟩)), (5, .slice yd ys.length yc), (6, .int .i64 (0 : Nat))] ⟨0, rfl, Nat.zero_le _, rfl, Imm.le_refl _, rfl, fun i _ h => by omega⟩ ⟨rfl, rfl, rfl, rfl, trivial⟩ ?_
  rintro m _ I1 _ ⟨j, rfl, hj, rfl, hI1, rfl, hp⟩
  refine code_seq ?_
  refine code_seq ?_
  refine code_region ?_
  refine op_v (v_move rfl) rfl ?_
  refine op_v (v_move rfl) rfl ?_
  refine op_v (v_len Try.underlying42 rfl) rfl ?_
  first | refine op_v (v_cmptA rfl rfl rfl) rfl ?_ | refine op_v (v_cmpfA rfl rfl rfl) rfl ?_ | refine op_v (v_cmp rfl rfl rfl) rfl ?_
  refine ops_nil ?_
  refine post_next ?_
  refine code_cond rfl (fun hc0 => ?_) (fun hc0 => ?_)
  · have hltj : j < ys.length := by simpa using hc0
    have hsy := ints_some hyat j hltj
    have hyj := (hys ys[j]).1 (List.getElem_mem hltj)
    have hyk : -256 ≤ -1 - ys[j] := by { obtain ⟨x, hx, hxe⟩ := List.mem_map.1 hyj.2; rw [← hxe]; exact (chk_vis hb x hx).2 }
    refine code_skip ?_
    refine post_next ?_
    refine code_seq ?_
    refine code_block ?_
    refine code_seq ?_
    refine code_draw (.fl 0 (.fl 1 (.fl 2 (.fl 3 (.fl 4 (.fl 6 (.fl 7 (.fl 8 (.fl 9 (.fl 10 (.ef 5 (.ef 11 (.fl 12 .done))))))))))))) (fun _ => _) mixed (by kernel_rfl) (by kernel_rfl) (fun _ => (List.Sublist.refl _)) ?_
    refine e_fl rfl rfl (fun hs_ => PF.mk rfl (v_loadA ty25 rfl rfl) hs_) ?_
    refine e_fl rfl rfl (fun hs_ => PF.mk rfl (v_move rfl) hs_) ?_
    refine e_fl rfl rfl (fun hs_ => PF.mk rfl (v_move rfl) hs_) ?_
    first | refine e_fl rfl rfl (fun hs_ => PF.mk rfl (v_indexA Try.underlying42 sz3 rfl rfl) hs_) ?_ | refine e_fl rfl rfl (fun hs_ => PF.mk rfl (v_indexIA Try.underlying42 sz3 rfl rfl) hs_) ?_
    first | refine e_fl rfl rfl (fun hs_ => PF.mk rfl (v_loadI0 ty3 ((ints_at hyat j hltj).mono hI1) rfl rfl rfl) hs_) ?_ | refine e_fl rfl rfl (fun hs_ => PF.mk rfl (v_loadI ty3 ((ints_at hyat j hltj).mono hI1) rfl rfl rfl) hs_) ?_
    refine e_fl rfl rfl (fun hs_ => PF.mk rfl (v_loadA ty25 rfl rfl) hs_) ?_
    refine e_fl rfl rfl (fun hs_ => PF.mk rfl (v_move rfl) hs_) ?_
    refine e_fl rfl rfl (fun hs_ => PF.mk rfl (v_move rfl) hs_) ?_
    first | refine e_fl rfl rfl (fun hs_ => PF.mk rfl (v_indexA Try.underlying42 sz3 rfl rfl) hs_) ?_ | refine e_fl rfl rfl (fun hs_ => PF.mk rfl (v_indexIA Try.underlying42 sz3 rfl rfl) hs_) ?_
    first | refine e_fl rfl rfl (fun hs_ => PF.mk rfl (v_loadI0 ty3 ((ints_at hyat j hltj).mono Imm.leA) rfl rfl rfl) hs_) ?_ | refine e_fl rfl rfl (fun hs_ => PF.mk rfl (v_loadI ty3 ((ints_at hyat j hltj).mono Imm.leA) rfl rfl rfl) hs_) ?_
    refine e_eff rfl (by intro cs b hc; cases hc) (by intro c hc; cases hc) ?_
    refine op_call pl132 rfl rfl ((RCount_does _ _ (Nat.le_refl _) (by omega) _ _ _ (hva.mono Imm.leA) hyj.1 (by omega))) Parts.none ?_
    rintro _ I20 _ hI20 ⟨rfl, rfl⟩
    refine ops_nil ?_
    refine e_next rfl side_allA ?_
    refine e_eff rfl (by intro cs b hc; cases hc) (by intro c hc; cases hc) ?_
    refine op_call pl132 rfl rfl ((RCount_does _ _ (Nat.le_refl _) (by omega) _ _ _ (hvb.mono Imm.leA) hyj.1 (by omega))) Parts.none ?_
    rintro _ I26 _ hI26 ⟨rfl, rfl⟩
    refine ops_nil ?_
    refine e_next rfl side_allA ?_
    first | refine e_fl rfl rfl (fun hs_ => PF.mk rfl (v_cmptA rfl rfl rfl) hs_) ?_ | refine e_fl rfl rfl (fun hs_ => PF.mk rfl (v_cmpfA rfl rfl rfl) hs_) ?_ | refine e_fl rfl rfl (fun hs_ => PF.mk rfl (v_cmp rfl rfl rfl) hs_) ?_
    refine e_done ?_
    refine post_next ?_
    refine code_cond rfl (fun hc1 => ?_) (fun hc1 => ?_)
    · have h27 : cn a (-1 - ys[j]) < cn b (-1 - ys[j]) := by simpa using hc1
      refine code_seq ?_
      refine code_region ?_
      refine op_v (v_assign rfl) rfl ?_
      refine ops_nil ?_
      refine post_next ?_
      refine code_ret ?_
      refine post_ret_block ?_
      refine post_ret_then ?_
      refine post_ret_then ?_
      refine post_ret_block ?_
      refine post_ret_then ?_
      refine post_ret (rs := [.tmp 4]) rfl (List.Perm.refl _) (.cons (.tmp rfl) .nil) (List.nil_sublist _) ?_
      exact ⟨by have hv : vleB a b = false := by { cases hq : vleB a b; rfl; have := vleB_iff.1 hq (-1 - ys[j]) (by omega); omega }; rw [hv]; rfl, rfl⟩
    · have h27 : ¬ cn a (-1 - ys[j]) < cn b (-1 - ys[j]) := by simpa using hc1
      refine code_skip ?_
      refine post_out ?_
      refine post_next ?_
      refine code_region ?_
      refine op_v (v_move rfl) rfl ?_
      first | refine op_v (v_addb rfl rfl rfl (by omega)) rfl ?_ | refine op_v (v_add rfl rfl) rfl ?_
      refine op_v (v_assign rfl) rfl ?_
      refine ops_nil ?_
      refine post_again (ys.length - (j + 1)) [(2, .pointer (some ⟨b2, 0, none⟩)), (3, .pointer (some ⟨b3, 0, none⟩)), (5, .slice yd ys.length yc), (6, .int .i64 (j + 1 : Nat))] (by omega) ⟨j + 1, rfl, hltj, rfl, Imm.leA, rfl, ?_⟩ ⟨rfl, rfl, rfl, rfl, trivial⟩
      intro i h hi
      rcases Nat.lt_or_ge i j with hik | hik
      · exact hp i h hik
      have hik2 : i = j := by omega
      subst hik2
      omega
  · have hgej : j = ys.length := by simp at hc0; omega
    refine code_exit ?_
    refine post_exit_then ?_
    refine post_exit_then ?_
    refine post_exit ?_
    refine post_next ?_
    refine code_seq ?_
    refine code_region ?_
    refine op_v (v_assign rfl) rfl ?_
    refine ops_nil ?_
    refine post_next ?_
    refine code_ret ?_
    refine post_ret (rs := [.tmp 4]) rfl (List.Perm.refl _) (.cons (.tmp rfl) .nil) (List.nil_sublist _) ?_
    exact ⟨by have hv : vleB a b = true := vleB_of hys (fun n hn => by obtain ⟨i, hi, rfl⟩ := List.getElem_of_mem hn; exact hp i hi (by omega)); rw [hv]; rfl, rfl⟩
end Go.Proofs.Ytegceppoioeeaaa
