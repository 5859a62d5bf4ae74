/- Walks: the document's answers on literals; the statement on how two stand. -/
import Derived.Test.YtegceppoioeeaaaRg
import Derived.Test.YtegceppoioeeaaaNk
set_option linter.unusedVariables false
set_option linter.unusedSimpArgs false
set_option linter.unnecessarySimpa false
/- short -/
namespace Go.Proofs.Ytegceppoioeeaaa
open Go Lg

theorem Rrow_does {I : Imm} {va : Value} {x : Li} (ha : RepL I va x) :
    Does Try.prog 118 [va] I [] (fun v I' δ' => RepS I' v (rowL x) ∧ δ' = []) := by
  obtain ⟨la, lc, ra, rc, rfl, hl, hr⟩ := ha
  refine Does.intro Try.func118 rfl Try.ntmps118 rfl fun w0 => ?_
  refine code_seq ?_
  refine code_region ?_
  refine o_box rfl rfl rfl (fun b1 => ?_)
  refine op_v (v_assign rfl) rfl ?_
  refine ops_nil ?_
  refine post_next ?_
  refine code_seq ?_
  refine code_seq ?_
  refine code_region ?_
  first | refine op_v (v_fieldB 0 Try.underlying27 rfl rfl fz4 rfl) rfl ?_ | refine op_v (v_fieldI 0 Try.underlying27 rfl rfl fz4 rfl (by assumption)) rfl ?_ | refine op_v (v_field Try.underlying27 rfl fz4 rfl rfl) rfl ?_
  refine op_v (v_loadA ty4 rfl rfl) rfl ?_
  refine ops_nil ?_
  refine post_next ?_
  refine code_cond rfl (fun hc0 => ?_) (fun hc0 => ?_)
  · have hn : x.neg = true := hc0
    refine code_seq ?_
    refine code_region ?_
    first | refine op_v (v_fieldB 1 Try.underlying27 rfl rfl fz25 rfl) rfl ?_ | refine op_v (v_fieldI 1 Try.underlying27 rfl rfl fz25 rfl (by assumption)) rfl ?_ | refine op_v (v_field Try.underlying27 rfl fz25 rfl rfl) rfl ?_
    refine op_v (v_loadA ty25 rfl rfl) rfl ?_
    first | refine op_v (v_fieldB 1 Try.underlying27 rfl rfl fz25 rfl) rfl ?_ | refine op_v (v_fieldI 1 Try.underlying27 rfl rfl fz25 rfl (by assumption)) rfl ?_ | refine op_v (v_field Try.underlying27 rfl fz25 rfl rfl) rfl ?_
    refine op_v (v_loadA ty25 rfl rfl) rfl ?_
    first | refine op_v (v_fieldB 3 Try.underlying27 rfl rfl fz25 rfl) rfl ?_ | refine op_v (v_fieldI 3 Try.underlying27 rfl rfl fz25 rfl (by assumption)) rfl ?_ | refine op_v (v_field Try.underlying27 rfl fz25 rfl rfl) rfl ?_
    refine op_v (v_loadA ty25 rfl rfl) rfl ?_
    first | refine op_v (v_fieldB 3 Try.underlying27 rfl rfl fz25 rfl) rfl ?_ | refine op_v (v_fieldI 3 Try.underlying27 rfl rfl fz25 rfl (by assumption)) rfl ?_ | refine op_v (v_field Try.underlying27 rfl fz25 rfl rfl) rfl ?_
    refine op_v (v_loadA ty25 rfl rfl) rfl ?_
    refine o_buildSlice (xs := [(Go.Operand.tmp 6), (Go.Operand.tmp 8), (Go.Operand.tmp 10), (Go.Operand.tmp 12)]) Try.underlying23 bs25 rfl rfl rfl rfl rfl (fun b13 => ?_)
    refine OpsJ.freezeRow Del.here ?_
    rintro I13 a13 c13 hI13 hq hc13 hl13 hcells13
    cases hq
    refine op_v (v_assign rfl) rfl ?_
    refine ops_nil ?_
    refine post_next ?_
    refine code_ret ?_
    refine post_ret_then ?_
    refine post_ret (rs := [.tmp 2]) rfl (List.Perm.refl _) (.cons (.tmp rfl) .nil) (List.nil_sublist _) ?_
    exact ⟨by unfold rowL; rw [if_pos hn]; exact RowT.repS (ts := [x.l, x.l, x.r, x.r]) rfl hcells13 ((RowT.one (hl.mono Imm.leA)).app ((RowT.one (hl.mono Imm.leA)).app ((RowT.one (hr.mono Imm.leA)).app (RowT.one (hr.mono Imm.leA))))) hc13 (by omega), rfl⟩
  · have hn : ¬ x.neg = true := by rw [hc0]; simp
    refine code_skip ?_
    refine post_next ?_
    refine code_seq ?_
    refine code_region ?_
    first | refine op_v (v_fieldB 1 Try.underlying27 rfl rfl fz25 rfl) rfl ?_ | refine op_v (v_fieldI 1 Try.underlying27 rfl rfl fz25 rfl (by assumption)) rfl ?_ | refine op_v (v_field Try.underlying27 rfl fz25 rfl rfl) rfl ?_
    refine op_v (v_loadA ty25 rfl rfl) rfl ?_
    first | refine op_v (v_fieldB 3 Try.underlying27 rfl rfl fz25 rfl) rfl ?_ | refine op_v (v_fieldI 3 Try.underlying27 rfl rfl fz25 rfl (by assumption)) rfl ?_ | refine op_v (v_field Try.underlying27 rfl fz25 rfl rfl) rfl ?_
    refine op_v (v_loadA ty25 rfl rfl) rfl ?_
    refine o_buildSlice (xs := [(Go.Operand.tmp 15), (Go.Operand.tmp 17)]) Try.underlying23 bs25 rfl rfl rfl rfl rfl (fun b18 => ?_)
    refine OpsJ.freezeRow Del.here ?_
    rintro I18 a18 c18 hI18 hq hc18 hl18 hcells18
    cases hq
    refine op_v (v_assign rfl) rfl ?_
    refine ops_nil ?_
    refine post_next ?_
    refine code_ret ?_
    refine post_ret (rs := [.tmp 2]) rfl (List.Perm.refl _) (.cons (.tmp rfl) .nil) (List.nil_sublist _) ?_
    exact ⟨by unfold rowL; rw [if_neg hn]; exact RowT.repS (ts := [x.l, x.r]) rfl hcells18 ((RowT.one (hl.mono Imm.leA)).app (RowT.one (hr.mono Imm.leA))) hc18 (by omega), rfl⟩
theorem RLStand_does {I : Imm} {vg va vb : Value} {gs : List Sy} {x y : Li} (hg : RepG I vg gs) (ha : RepL I va x) (hb : RepL I vb y) (hX : ∀ t ∈ rowL x, OkG gs t) (hY : ∀ t ∈ rowL y, OkG gs t) :
    Does Try.prog 87 [vg, va, vb] I [] (fun v _ δ' => v = .int .i64 (mulG gs (rowL x) (rowL y)) ∧ δ' = []) := by
  have ha0 := ha
  have hb0 := hb
  obtain ⟨la, lc, ra, rc, rfl, hl, hr⟩ := ha
  obtain ⟨ma, mc, na, nc, rfl, kl, kr⟩ := hb
  have hx1 := rowL_len x
  have hy1 := rowL_len y
  refine Does.intro Try.func87 rfl Try.ntmps87 rfl fun w0 => ?_
  refine code_seq ?_
  refine code_region ?_
  refine o_box rfl rfl rfl (fun b4 => ?_)
  refine o_box rfl rfl rfl (fun b5 => ?_)
  refine op_v (v_assign rfl) rfl ?_
  refine ops_nil ?_
  refine post_next ?_
  refine code_seq ?_
  refine code_draw (.fl 0 (.fl 1 (.fl 3 (.ef 2 (.ef 4 (.ef 5 (.ef 6 .done))))))) (fun _ => _) mixed (by kernel_rfl) (by kernel_rfl) (fun _ => (List.Sublist.refl _)) ?_
  refine e_fl rfl rfl (fun hs_ => PF.mk rfl (v_move rfl) hs_) ?_
  refine e_fl rfl rfl (fun hs_ => PF.mk rfl (v_loadA ty27 rfl rfl) hs_) ?_
  refine e_fl rfl rfl (fun hs_ => PF.mk rfl (v_loadA ty27 rfl rfl) hs_) ?_
  refine e_eff rfl (by intro cs b hc; cases hc) (by intro c hc; cases hc) ?_
  refine op_call pl118 rfl rfl ((Rrow_does (ha0.mono Imm.leA))) Parts.none ?_
  rintro v9 I9 _ hI9 ⟨hv9, rfl⟩
  refine ops_nil ?_
  refine e_next rfl side_allA ?_
  refine e_eff rfl (by intro cs b hc; cases hc) (by intro c hc; cases hc) ?_
  refine op_call pl118 rfl rfl ((Rrow_does (hb0.mono Imm.leA))) Parts.none ?_
  rintro v11 I11 _ hI11 ⟨hv11, rfl⟩
  refine ops_nil ?_
  refine e_next rfl side_allA ?_
  refine e_eff rfl (by intro cs b hc; cases hc) (by intro c hc; cases hc) ?_
  refine op_call pl71 rfl rfl ((Rows_does (hg.mono Imm.leA) (hv9.mono Imm.leA) (hv11.mono Imm.leA) hX hY (by omega) (by omega))) Parts.none ?_
  rintro _ I12 _ hI12 ⟨rfl, rfl⟩
  refine ops_nil ?_
  refine e_next rfl (side_nil (by kernel_rfl)) ?_
  refine e_eff rfl (by intro cs b hc; cases hc) (by intro c hc; cases hc) ?_
  refine op_v (v_assign rfl) rfl ?_
  refine ops_nil ?_
  refine e_next rfl (side_nil (by kernel_rfl)) ?_
  refine e_done ?_
  refine post_next ?_
  refine code_ret ?_
  refine post_ret (rs := [.tmp 6]) rfl (List.Perm.refl _) (.cons (.tmp rfl) .nil) (List.nil_sublist _) ?_
  exact ⟨rfl, rfl⟩
theorem RLCompare_does {I : Imm} {vg va vb : Value} {gs : List Sy} {x y : Li} (hg : RepG I vg gs) (ha : RepL I va x) (hb : RepL I vb y) (h1 : x.l.size ≤ 1000000000) (h2 : x.r.size ≤ 1000000000) (h3 : y.l.size ≤ 1000000000) (h4 : y.r.size ≤ 1000000000) :
    Does Try.prog 46 [vg, va, vb] I [] (fun v _ δ' => v = .tuple #[.int .i64 (if litE gs x y = 0 then mulG gs (rowL x) (rowL y) else 0), .int .i64 (litE gs x y)] ∧ δ' = []) := by
  have ha0 := ha
  have hb0 := hb
  obtain ⟨la, lc, ra, rc, rfl, hl, hr⟩ := ha
  obtain ⟨ma, mc, na, nc, rfl, kl, kr⟩ := hb
  refine Does.intro Try.func46 rfl Try.ntmps46 rfl fun w0 => ?_
  refine code_seq ?_
  refine code_region ?_
  refine o_box rfl rfl rfl (fun b4 => ?_)
  refine o_box rfl rfl rfl (fun b5 => ?_)
  refine op_v (v_assign rfl) rfl ?_
  refine op_v (v_assign rfl) rfl ?_
  refine ops_nil ?_
  refine post_next ?_
  refine code_seq ?_
  refine code_region ?_
  refine op_v (v_move rfl) rfl ?_
  refine op_v (v_loadA ty27 rfl rfl) rfl ?_
  refine op_call pl24 rfl rfl ((RLCheck_does (hg.mono Imm.leA) (ha0.mono Imm.leA) h1 h2)) Parts.none ?_
  rintro _ I12 _ hI12 ⟨rfl, rfl⟩
  refine op_v (v_assign rfl) rfl ?_
  refine ops_nil ?_
  refine post_next ?_
  refine code_seq ?_
  refine code_seq ?_
  refine code_region ?_
  refine op_v (v_move rfl) rfl ?_
  by_cases e1 : litG gs x ≠ 0
  · first | refine op_v (v_cmptA rfl rfl rfl) rfl ?_ | refine op_v (v_cmpfA rfl rfl rfl) rfl ?_ | refine op_v (v_cmp rfl rfl rfl) rfl ?_
    refine ops_nil ?_
    refine post_next ?_
    refine code_cond_t rfl ?_
    refine code_seq ?_
    refine code_region ?_
    refine op_v (v_move rfl) rfl ?_
    refine op_v (v_assign rfl) rfl ?_
    refine op_v (v_assign rfl) rfl ?_
    refine ops_nil ?_
    refine post_next ?_
    refine code_ret ?_
    refine post_ret_then ?_
    refine post_ret (rs := [.tmp 6, .tmp 7]) rfl (List.Perm.refl _) (.cons (.tmp rfl) (.cons (.tmp rfl) .nil)) (List.nil_sublist _) ?_
    have e : litE gs x y = litG gs x := by unfold litE; rw [if_pos e1]
    exact ⟨by rw [e, if_neg e1]; rfl, rfl⟩
  · first | refine op_v (v_cmptA rfl rfl rfl) rfl ?_ | refine op_v (v_cmpfA rfl rfl rfl) rfl ?_ | refine op_v (v_cmp rfl rfl rfl) rfl ?_
    refine ops_nil ?_
    refine post_next ?_
    refine code_cond_f rfl ?_
    refine code_skip ?_
    refine post_next ?_
    refine code_seq ?_
    refine code_region ?_
    refine op_v (v_move rfl) rfl ?_
    refine op_v (v_loadA ty27 rfl rfl) rfl ?_
    refine op_call pl24 rfl rfl ((RLCheck_does (hg.mono Imm.leA) (hb0.mono Imm.leA) h3 h4)) Parts.none ?_
    rintro _ I18 _ hI18 ⟨rfl, rfl⟩
    refine op_v (v_assign rfl) rfl ?_
    refine ops_nil ?_
    refine post_next ?_
    refine code_seq ?_
    refine code_seq ?_
    refine code_region ?_
    refine op_v (v_move rfl) rfl ?_
    by_cases e2 : litG gs y ≠ 0
    · first | refine op_v (v_cmptA rfl rfl rfl) rfl ?_ | refine op_v (v_cmpfA rfl rfl rfl) rfl ?_ | refine op_v (v_cmp rfl rfl rfl) rfl ?_
      refine ops_nil ?_
      refine post_next ?_
      refine code_cond_t rfl ?_
      refine code_seq ?_
      refine code_region ?_
      refine op_v (v_move rfl) rfl ?_
      refine op_v (v_assign rfl) rfl ?_
      refine op_v (v_assign rfl) rfl ?_
      refine ops_nil ?_
      refine post_next ?_
      refine code_ret ?_
      refine post_ret_then ?_
      refine post_ret (rs := [.tmp 6, .tmp 7]) rfl (List.Perm.refl _) (.cons (.tmp rfl) (.cons (.tmp rfl) .nil)) (List.nil_sublist _) ?_
      have e : litE gs x y = litG gs y := by unfold litE; rw [if_neg e1]
      exact ⟨by rw [e, if_neg e2]; rfl, rfl⟩
    · have e : litE gs x y = 0 := by unfold litE; rw [if_neg e1]; omega
      obtain ⟨o1, o2⟩ := litG_ok (show litG gs x = 0 by omega)
      obtain ⟨o3, o4⟩ := litG_ok (show litG gs y = 0 by omega)
      first | refine op_v (v_cmptA rfl rfl rfl) rfl ?_ | refine op_v (v_cmpfA rfl rfl rfl) rfl ?_ | refine op_v (v_cmp rfl rfl rfl) rfl ?_
      refine ops_nil ?_
      refine post_next ?_
      refine code_cond_f rfl ?_
      refine code_skip ?_
      refine post_next ?_
      refine code_seq ?_
      refine code_region ?_
      refine op_v (v_move rfl) rfl ?_
      refine op_v (v_loadA ty27 rfl rfl) rfl ?_
      refine op_v (v_loadA ty27 rfl rfl) rfl ?_
      refine op_call pl87 rfl rfl ((RLStand_does (hg.mono Imm.leA) (ha0.mono Imm.leA) (hb0.mono Imm.leA) (fun t ht => by rcases rowL_mem ht with rfl | rfl <;> assumption) (fun t ht => by rcases rowL_mem ht with rfl | rfl <;> assumption))) Parts.none ?_
      rintro _ I25 _ hI25 ⟨rfl, rfl⟩
      refine op_v (v_assign rfl) rfl ?_
      refine op_v (v_assign rfl) rfl ?_
      refine ops_nil ?_
      refine post_next ?_
      refine code_ret ?_
      refine post_ret (rs := [.tmp 6, .tmp 7]) rfl (List.Perm.refl _) (.cons (.tmp rfl) (.cons (.tmp rfl) .nil)) (List.nil_sublist _) ?_
      exact ⟨by rw [e, if_pos rfl]; rfl, rfl⟩
theorem RLOrient_does {I : Imm} {vg va : Value} {gs : List Sy} {x : Li} (hg : RepG I vg gs) (ha : RepL I va x) (h1 : x.l.size ≤ 1000000000) (h2 : x.r.size ≤ 1000000000) :
    Does Try.prog 47 [vg, va] I [] (fun v I' δ' => (∃ vo, v = .tuple #[vo, .int .i64 (litG gs x)] ∧ RepL I' vo (if litG gs x = 0 then or2 gs x else zeroLi)) ∧ δ' = []) := by
  have ha0 := ha
  obtain ⟨la, lc, ra, rc, rfl, hl, hr⟩ := ha
  have hneg := stT_neg gs x.l x.r
  have hvals := stT_vals gs x.l x.r
  refine Does.intro Try.func47 rfl Try.ntmps47 rfl fun w0 => ?_
  refine code_seq ?_
  refine code_region ?_
  refine o_box rfl rfl rfl (fun b3 => ?_)
  refine o_alloc z27 rfl rfl (fun b4 => ?_)
  refine op_v (v_assign rfl) rfl ?_
  refine ops_nil ?_
  refine post_next ?_
  refine code_seq ?_
  refine code_region ?_
  refine op_v (v_move rfl) rfl ?_
  refine op_v (v_loadA ty27 rfl rfl) rfl ?_
  refine op_call pl24 rfl rfl ((RLCheck_does (hg.mono Imm.leA) (ha0.mono Imm.leA) h1 h2)) Parts.none ?_
  rintro _ I9 _ hI9 ⟨rfl, rfl⟩
  refine op_v (v_assign rfl) rfl ?_
  refine ops_nil ?_
  refine post_next ?_
  refine code_seq ?_
  refine code_seq ?_
  refine code_region ?_
  refine op_v (v_move rfl) rfl ?_
  by_cases e1 : litG gs x ≠ 0
  · first | refine op_v (v_cmptA rfl rfl rfl) rfl ?_ | refine op_v (v_cmpfA rfl rfl rfl) rfl ?_ | refine op_v (v_cmp rfl rfl rfl) rfl ?_
    refine ops_nil ?_
    refine post_next ?_
    refine code_cond_t rfl ?_
    refine code_seq ?_
    refine code_region ?_
    refine op_v (v_build bl27 rfl rfl) rfl ?_
    refine op_v (v_move rfl) rfl ?_
    refine o_store ty27 rfl rfl rfl rfl rfl (by repeat (first | exact Swap.here | apply Swap.there)) rfl ?_
    refine op_v (v_assign rfl) rfl ?_
    refine ops_nil ?_
    refine post_next ?_
    refine code_ret ?_
    refine post_ret_then ?_
    refine post_ret (rs := [.cell 4 27, .tmp 5]) rfl (List.Perm.refl _) (.cons (.cell rfl ty27 (by repeat (first | exact Has.here | apply Has.there)) rfl) (.cons (.tmp rfl) .nil)) (List.nil_sublist _) ?_
    exact ⟨⟨_, rfl, by rw [if_neg e1]; exact ⟨none, 0, none, 0, rfl, zeroT_rep _, zeroT_rep _⟩⟩, rfl⟩
  · have e0 : litG gs x = 0 := by omega
    obtain ⟨o1, o2⟩ := litG_ok e0
    first | refine op_v (v_cmptA rfl rfl rfl) rfl ?_ | refine op_v (v_cmpfA rfl rfl rfl) rfl ?_ | refine op_v (v_cmp rfl rfl rfl) rfl ?_
    refine ops_nil ?_
    refine post_next ?_
    refine code_cond_f rfl ?_
    refine code_skip ?_
    refine post_next ?_
    refine code_seq ?_
    refine code_seq ?_
    refine code_region ?_
    refine op_v (v_move rfl) rfl ?_
    first | refine op_v (v_fieldB 3 Try.underlying27 rfl rfl fz25 rfl) rfl ?_ | refine op_v (v_fieldI 3 Try.underlying27 rfl rfl fz25 rfl (by assumption)) rfl ?_ | refine op_v (v_field Try.underlying27 rfl fz25 rfl rfl) rfl ?_
    refine op_v (v_loadA ty25 rfl rfl) rfl ?_
    first | refine op_v (v_fieldB 1 Try.underlying27 rfl rfl fz25 rfl) rfl ?_ | refine op_v (v_fieldI 1 Try.underlying27 rfl rfl fz25 rfl (by assumption)) rfl ?_ | refine op_v (v_field Try.underlying27 rfl fz25 rfl rfl) rfl ?_
    refine op_v (v_loadA ty25 rfl rfl) rfl ?_
    refine op_call pl88 rfl rfl ((Greater_does _ _ _ (Nat.le_refl _) o2 o1 _ _ _ _ (hg.mono Imm.leA) (hr.mono Imm.leA) (hl.mono Imm.leA))) Parts.none ?_
    rintro _ I19 _ hI19 ⟨rfl, rfl⟩
    refine ops_nil ?_
    refine post_next ?_
    refine code_cond rfl (fun hc1 => ?_) (fun hc1 => ?_)
    · have e2 : stT gs x.r x.l = 1 := by simpa using hc1
      have e3 : stT gs x.l x.r = -1 := by rcases hvals with q | q | q | q <;> rw [q] at hneg <;> simp [ngS] at hneg <;> omega
      refine code_seq ?_
      refine code_region ?_
      refine op_v (v_loadA ty27 rfl rfl) rfl ?_
      refine op_call pl51 rfl rfl ((Turn_does (ha0.mono Imm.leA))) Parts.none ?_
      rintro v21 I21 _ hI21 ⟨hv21, rfl⟩
      obtain ⟨oa, oc, od, oe, rfl, hol, hor⟩ := hv21
      refine o_store ty27 rfl rfl rfl rfl rfl (by repeat (first | exact Swap.here | apply Swap.there)) rfl ?_
      refine op_v (v_assign rfl) rfl ?_
      refine ops_nil ?_
      refine post_next ?_
      refine code_ret ?_
      refine post_ret_then ?_
      refine post_ret (rs := [.cell 4 27, .tmp 5]) rfl (List.Perm.refl _) (.cons (.cell rfl ty27 (by repeat (first | exact Has.here | apply Has.there)) rfl) (.cons (.tmp rfl) .nil)) (List.nil_sublist _) ?_
      exact ⟨⟨_, by rw [e0]; rfl, by rw [if_pos e0]; unfold or2; rw [if_pos e3]; exact ⟨oa, oc, od, oe, rfl, hol, hor⟩⟩, rfl⟩
    · have e2 : ¬ stT gs x.r x.l = 1 := by simpa using hc1
      have e3 : ¬ stT gs x.l x.r = -1 := fun q => by rw [q] at hneg; simp [ngS] at hneg; exact e2 hneg
      refine code_skip ?_
      refine post_next ?_
      refine code_seq ?_
      refine code_region ?_
      refine op_v (v_loadA ty27 rfl rfl) rfl ?_
      refine o_store ty27 rfl rfl rfl rfl rfl (by repeat (first | exact Swap.here | apply Swap.there)) rfl ?_
      refine op_v (v_assign rfl) rfl ?_
      refine ops_nil ?_
      refine post_next ?_
      refine code_ret ?_
      refine post_ret (rs := [.cell 4 27, .tmp 5]) rfl (List.Perm.refl _) (.cons (.cell rfl ty27 (by repeat (first | exact Has.here | apply Has.there)) rfl) (.cons (.tmp rfl) .nil)) (List.nil_sublist _) ?_
      exact ⟨⟨_, by rw [e0]; rfl, by rw [if_pos e0]; unfold or2; rw [if_neg e3]; exact ⟨la, lc, ra, rc, rfl, hl.mono Imm.leA, hr.mono Imm.leA⟩⟩, rfl⟩
theorem exact_refl (x : Li) : exactL x x = true := by simp [exactL]
theorem or3_size (gs : List Sy) (x : Li) (h1 : x.l.size ≤ 1000000000) (h2 : x.r.size ≤ 1000000000) : (if litG gs x = 0 then or2 gs x else zeroLi).l.size ≤ 1000000000 ∧ (if litG gs x = 0 then or2 gs x else zeroLi).r.size ≤ 1000000000 := by
  split
  · unfold or2; split
    · exact ⟨h2, h1⟩
    · exact ⟨h1, h2⟩
  · exact ⟨by decide, by decide⟩
theorem LitStands_does {I : Imm} {vg va vb : Value} {gs : List Sy} {x y : Li} (hg : RepG I vg gs) (ha : RepL I va x) (hb : RepL I vb y) :
    Does Try.prog 12 [vg, va, vb] I [] (fun v I' δ' => v = .bool true ∧ δ' = []) := by
  have ha0 := ha
  have hb0 := hb
  obtain ⟨la, lc, ra, rc, rfl, hl, hr⟩ := ha
  obtain ⟨ma, mc, na, nc, rfl, kl, kr⟩ := hb
  refine Does.intro Try.func12 rfl Try.ntmps12 rfl fun w0 => ?_
  refine code_seq ?_
  refine code_region ?_
  refine o_box rfl rfl rfl (fun b4 => ?_)
  refine o_box rfl rfl rfl (fun b5 => ?_)
  refine op_v (v_assign rfl) rfl ?_
  refine ops_nil ?_
  refine post_next ?_
  refine code_seq ?_
  refine code_seq ?_
  refine code_region ?_
  refine op_v (v_move rfl) rfl ?_
  refine op_call pl14 rfl rfl ((FewG_does (hg.mono Imm.leA))) Parts.none ?_
  rintro v16 I16 _ hI16 ⟨rfl, rfl⟩
  by_cases e1 : fewG gs = true
  · rw [e1]
    refine op_v (v_not rfl) rfl ?_
    refine op_v (v_move rfl) rfl ?_
    first
      | (refine op_want rfl rfl ?_
         refine op_v (v_loadA ty27 rfl rfl) rfl ?_)
      | (refine op_skip rfl rfl (by simp [undef]) rfl ?_)
    first
      | (refine op_want rfl rfl ?_
         refine op_call pl15 rfl rfl ((FewL_does (ha0.mono Imm.leA))) Parts.none ?_
         rintro v20 I20 _ hI20 ⟨rfl, rfl⟩)
      | (refine op_skip rfl rfl (by simp [undef]) rfl ?_)
    by_cases e2 : fewL x = true
    · rw [e2]
      have hsz : x.l.size ≤ 500 ∧ x.r.size ≤ 500 := by simpa [fewL] using e2
      first
        | (refine op_want rfl rfl ?_
           refine op_v (v_not rfl) rfl ?_)
        | (refine op_skip rfl rfl (by simp [undef]) rfl ?_)
      first | refine op_v (v_pickt rfl rfl) rfl ?_ | refine op_v (v_pickf rfl rfl) rfl ?_ | refine op_v (v_pickb rfl rfl rfl) rfl ?_
      refine op_v (v_move rfl) rfl ?_
      first
        | (refine op_want rfl rfl ?_
           refine op_v (v_loadA ty27 rfl rfl) rfl ?_)
        | (refine op_skip rfl rfl (by simp [undef]) rfl ?_)
      first
        | (refine op_want rfl rfl ?_
           refine op_call pl15 rfl rfl ((FewL_does (hb0.mono Imm.leA))) Parts.none ?_
           rintro v25 I25 _ hI25 ⟨rfl, rfl⟩)
        | (refine op_skip rfl rfl (by simp [undef]) rfl ?_)
      by_cases e3 : fewL y = true
      · rw [e3]
        have hsy : y.l.size ≤ 500 ∧ y.r.size ≤ 500 := by simpa [fewL] using e3
        obtain ⟨hq1, hq2⟩ := or3_size gs x (by omega) (by omega)
        first
          | (refine op_want rfl rfl ?_
             refine op_v (v_not rfl) rfl ?_)
          | (refine op_skip rfl rfl (by simp [undef]) rfl ?_)
        first | refine op_v (v_pickt rfl rfl) rfl ?_ | refine op_v (v_pickf rfl rfl) rfl ?_ | refine op_v (v_pickb rfl rfl rfl) rfl ?_
        refine ops_nil ?_
        refine post_next ?_
        refine code_cond_f rfl ?_
        refine code_skip ?_
        refine post_next ?_
        refine code_seq ?_
        refine code_region ?_
        refine op_v (v_move rfl) rfl ?_
        refine op_v (v_loadA ty27 rfl rfl) rfl ?_
        refine op_v (v_loadA ty27 rfl rfl) rfl ?_
        refine op_call pl45 rfl rfl ((LCompare_does (hg.mono Imm.leA) (ha0.mono Imm.leA) (hb0.mono Imm.leA) (by omega) (by omega) (by omega) (by omega))) Parts.none ?_
        rintro _ I32 _ hI32 ⟨rfl, rfl⟩
        refine op_v (v_move rfl) rfl ?_
        refine op_v (v_extract rfl rfl) rfl ?_
        refine op_v (v_extract rfl rfl) rfl ?_
        refine op_v (v_assign rfl) rfl ?_
        refine op_v (v_assign rfl) rfl ?_
        refine ops_nil ?_
        refine post_next ?_
        refine code_seq ?_
        refine code_region ?_
        refine op_v (v_move rfl) rfl ?_
        refine op_v (v_loadA ty27 rfl rfl) rfl ?_
        refine op_v (v_loadA ty27 rfl rfl) rfl ?_
        refine op_call pl46 rfl rfl ((RLCompare_does (hg.mono Imm.leA) (ha0.mono Imm.leA) (hb0.mono Imm.leA) (by omega) (by omega) (by omega) (by omega))) Parts.none ?_
        rintro _ I39 _ hI39 ⟨rfl, rfl⟩
        refine op_v (v_move rfl) rfl ?_
        refine op_v (v_extract rfl rfl) rfl ?_
        refine op_v (v_extract rfl rfl) rfl ?_
        refine op_v (v_assign rfl) rfl ?_
        refine op_v (v_assign rfl) rfl ?_
        refine ops_nil ?_
        refine post_next ?_
        refine code_seq ?_
        refine code_region ?_
        refine op_v (v_move rfl) rfl ?_
        refine op_v (v_loadA ty27 rfl rfl) rfl ?_
        refine op_call pl16 rfl rfl ((LOrient_does (hg.mono Imm.leA) (ha0.mono Imm.leA) (by omega) (by omega))) Parts.none ?_
        rintro v45 I45 _ hI45 ⟨⟨v45o, rfl, hv45⟩, rfl⟩
        obtain ⟨oa, oc, od, oe, rfl, hol, hor⟩ := hv45
        have hO : RepL I45 _ (if litG gs x = 0 then or2 gs x else zeroLi) := ⟨oa, oc, od, oe, rfl, hol, hor⟩
        refine op_v (v_move rfl) rfl ?_
        refine op_v (v_extract rfl rfl) rfl ?_
        refine op_v (v_extract rfl rfl) rfl ?_
        refine o_alloc z27 rfl rfl (fun b11 => ?_)
        refine o_store ty27 rfl rfl rfl rfl rfl (by repeat (first | exact Swap.here | apply Swap.there)) rfl ?_
        refine op_v (v_assign rfl) rfl ?_
        refine ops_nil ?_
        refine post_next ?_
        refine code_seq ?_
        refine code_region ?_
        refine op_v (v_move rfl) rfl ?_
        refine op_v (v_loadA ty27 rfl rfl) rfl ?_
        refine op_call pl47 rfl rfl ((RLOrient_does (hg.mono Imm.leA) (ha0.mono Imm.leA) (by omega) (by omega))) Parts.none ?_
        rintro v51 I51 _ hI51 ⟨⟨v51o, rfl, hv51⟩, rfl⟩
        obtain ⟨pa, pc, pd, pe, rfl, hpl, hpr⟩ := hv51
        have hP : RepL I51 _ (if litG gs x = 0 then or2 gs x else zeroLi) := ⟨pa, pc, pd, pe, rfl, hpl, hpr⟩
        refine op_v (v_move rfl) rfl ?_
        refine op_v (v_extract rfl rfl) rfl ?_
        refine op_v (v_extract rfl rfl) rfl ?_
        refine o_alloc z27 rfl rfl (fun b13 => ?_)
        refine o_store ty27 rfl rfl rfl rfl rfl (by repeat (first | exact Swap.here | apply Swap.there)) rfl ?_
        refine op_v (v_assign rfl) rfl ?_
        refine ops_nil ?_
        refine post_next ?_
        refine code_seq ?_
        refine code_region ?_
        refine op_call pl17 rfl rfl ((awake9_does _)) Parts.none ?_
        rintro _ I54 _ hI54 ⟨rfl, rfl⟩
        refine op_v (v_move rfl) rfl ?_
        first
          | (refine op_want rfl rfl ?_
             refine op_v (v_move rfl) rfl ?_)
          | (refine op_skip rfl rfl (by simp [undef]) rfl ?_)
        first
          | (refine op_want rfl rfl ?_
             refine op_v (v_move rfl) rfl ?_)
          | (refine op_skip rfl rfl (by simp [undef]) rfl ?_)
        first
          | (refine op_want rfl rfl ?_
             refine op_v (v_cmpt rfl rfl rfl rfl) rfl ?_)
          | (refine op_skip rfl rfl (by simp [undef]) rfl ?_)
        first | refine op_v (v_pickt rfl rfl) rfl ?_ | refine op_v (v_pickf rfl rfl) rfl ?_ | refine op_v (v_pickb rfl rfl rfl) rfl ?_
        refine op_v (v_move rfl) rfl ?_
        first
          | (refine op_want rfl rfl ?_
             refine op_v (v_move rfl) rfl ?_)
          | (refine op_skip rfl rfl (by simp [undef]) rfl ?_)
        first
          | (refine op_want rfl rfl ?_
             refine op_v (v_move rfl) rfl ?_)
          | (refine op_skip rfl rfl (by simp [undef]) rfl ?_)
        first
          | (refine op_want rfl rfl ?_
             refine op_v (v_cmpt rfl rfl rfl rfl) rfl ?_)
          | (refine op_skip rfl rfl (by simp [undef]) rfl ?_)
        first | refine op_v (v_pickt rfl rfl) rfl ?_ | refine op_v (v_pickf rfl rfl) rfl ?_ | refine op_v (v_pickb rfl rfl rfl) rfl ?_
        refine op_v (v_move rfl) rfl ?_
        first
          | (refine op_want rfl rfl ?_
             refine op_v (v_loadA ty27 rfl rfl) rfl ?_)
          | (refine op_skip rfl rfl (by simp [undef]) rfl ?_)
        first
          | (refine op_want rfl rfl ?_
             refine op_v (v_loadA ty27 rfl rfl) rfl ?_)
          | (refine op_skip rfl rfl (by simp [undef]) rfl ?_)
        first
          | (refine op_want rfl rfl ?_
             refine op_call pl21 rfl rfl ((Exact_does (hO.mono Imm.leA) (hP.mono Imm.leA) hq1 hq2 hq1 hq2)) Parts.none ?_
             rintro _ I68 _ hI68 ⟨rfl, rfl⟩
             rw [exact_refl])
          | (refine op_skip rfl rfl (by simp [undef]) rfl ?_)
        first | refine op_v (v_pickt rfl rfl) rfl ?_ | refine op_v (v_pickf rfl rfl) rfl ?_ | refine op_v (v_pickb rfl rfl rfl) rfl ?_
        refine op_v (v_move rfl) rfl ?_
        first
          | (refine op_want rfl rfl ?_
             refine op_v (v_move rfl) rfl ?_)
          | (refine op_skip rfl rfl (by simp [undef]) rfl ?_)
        first
          | (refine op_want rfl rfl ?_
             refine op_v (v_move rfl) rfl ?_)
          | (refine op_skip rfl rfl (by simp [undef]) rfl ?_)
        first
          | (refine op_want rfl rfl ?_
             refine op_v (v_cmpt rfl rfl rfl rfl) rfl ?_)
          | (refine op_skip rfl rfl (by simp [undef]) rfl ?_)
        first | refine op_v (v_pickt rfl rfl) rfl ?_ | refine op_v (v_pickf rfl rfl) rfl ?_ | refine op_v (v_pickb rfl rfl rfl) rfl ?_
        refine op_v (v_assign rfl) rfl ?_
        refine ops_nil ?_
        refine post_next ?_
        refine code_ret ?_
        refine post_ret (rs := [.tmp 6]) rfl (List.Perm.refl _) (.cons (.tmp rfl) .nil) (List.nil_sublist _) ?_
        exact ⟨rfl, rfl⟩
      · have e3' : fewL y = false := by simpa using e3
        rw [e3']
        first
          | (refine op_want rfl rfl ?_
             refine op_v (v_not rfl) rfl ?_)
          | (refine op_skip rfl rfl (by simp [undef]) rfl ?_)
        first | refine op_v (v_pickt rfl rfl) rfl ?_ | refine op_v (v_pickf rfl rfl) rfl ?_ | refine op_v (v_pickb rfl rfl rfl) rfl ?_
        refine ops_nil ?_
        refine post_next ?_
        refine code_cond_t rfl ?_
        refine code_seq ?_
        refine code_region ?_
        refine op_v (v_assign rfl) rfl ?_
        refine ops_nil ?_
        refine post_next ?_
        refine code_ret ?_
        refine post_ret_then ?_
        refine post_ret (rs := [.tmp 6]) rfl (List.Perm.refl _) (.cons (.tmp rfl) .nil) (List.nil_sublist _) ?_
        exact ⟨rfl, rfl⟩
    · have e2' : fewL x = false := by simpa using e2
      rw [e2']
      first
        | (refine op_want rfl rfl ?_
           refine op_v (v_not rfl) rfl ?_)
        | (refine op_skip rfl rfl (by simp [undef]) rfl ?_)
      first | refine op_v (v_pickt rfl rfl) rfl ?_ | refine op_v (v_pickf rfl rfl) rfl ?_ | refine op_v (v_pickb rfl rfl rfl) rfl ?_
      refine op_v (v_move rfl) rfl ?_
      first
        | (refine op_want rfl rfl ?_
           refine op_v (v_loadA ty27 rfl rfl) rfl ?_)
        | (refine op_skip rfl rfl (by simp [undef]) rfl ?_)
      first
        | (refine op_want rfl rfl ?_
           refine op_call pl15 rfl rfl ((FewL_does (hb0.mono Imm.leA))) Parts.none ?_
           rintro v25 I25 _ hI25 ⟨rfl, rfl⟩)
        | (refine op_skip rfl rfl (by simp [undef]) rfl ?_)
      first
        | (refine op_want rfl rfl ?_
           refine op_v (v_not rfl) rfl ?_)
        | (refine op_skip rfl rfl (by simp [undef]) rfl ?_)
      first | refine op_v (v_pickt rfl rfl) rfl ?_ | refine op_v (v_pickf rfl rfl) rfl ?_ | refine op_v (v_pickb rfl rfl rfl) rfl ?_
      refine ops_nil ?_
      refine post_next ?_
      refine code_cond_t rfl ?_
      refine code_seq ?_
      refine code_region ?_
      refine op_v (v_assign rfl) rfl ?_
      refine ops_nil ?_
      refine post_next ?_
      refine code_ret ?_
      refine post_ret_then ?_
      refine post_ret (rs := [.tmp 6]) rfl (List.Perm.refl _) (.cons (.tmp rfl) .nil) (List.nil_sublist _) ?_
      exact ⟨rfl, rfl⟩
  · have e1' : fewG gs = false := by simpa using e1
    rw [e1']
    refine op_v (v_not rfl) rfl ?_
    refine op_v (v_move rfl) rfl ?_
    first
      | (refine op_want rfl rfl ?_
         refine op_v (v_loadA ty27 rfl rfl) rfl ?_)
      | (refine op_skip rfl rfl (by simp [undef]) rfl ?_)
    first
      | (refine op_want rfl rfl ?_
         refine op_call pl15 rfl rfl ((FewL_does (ha0.mono Imm.leA))) Parts.none ?_
         rintro v20 I20 _ hI20 ⟨rfl, rfl⟩)
      | (refine op_skip rfl rfl (by simp [undef]) rfl ?_)
    first
      | (refine op_want rfl rfl ?_
         refine op_v (v_not rfl) rfl ?_)
      | (refine op_skip rfl rfl (by simp [undef]) rfl ?_)
    first | refine op_v (v_pickt rfl rfl) rfl ?_ | refine op_v (v_pickf rfl rfl) rfl ?_ | refine op_v (v_pickb rfl rfl rfl) rfl ?_
    refine op_v (v_move rfl) rfl ?_
    first
      | (refine op_want rfl rfl ?_
         refine op_v (v_loadA ty27 rfl rfl) rfl ?_)
      | (refine op_skip rfl rfl (by simp [undef]) rfl ?_)
    first
      | (refine op_want rfl rfl ?_
         refine op_call pl15 rfl rfl ((FewL_does (hb0.mono Imm.leA))) Parts.none ?_
         rintro v25 I25 _ hI25 ⟨rfl, rfl⟩)
      | (refine op_skip rfl rfl (by simp [undef]) rfl ?_)
    first
      | (refine op_want rfl rfl ?_
         refine op_v (v_not rfl) rfl ?_)
      | (refine op_skip rfl rfl (by simp [undef]) rfl ?_)
    first | refine op_v (v_pickt rfl rfl) rfl ?_ | refine op_v (v_pickf rfl rfl) rfl ?_ | refine op_v (v_pickb rfl rfl rfl) rfl ?_
    refine ops_nil ?_
    refine post_next ?_
    refine code_cond_t rfl ?_
    refine code_seq ?_
    refine code_region ?_
    refine op_v (v_assign rfl) rfl ?_
    refine ops_nil ?_
    refine post_next ?_
    refine code_ret ?_
    refine post_ret_then ?_
    refine post_ret (rs := [.tmp 6]) rfl (List.Perm.refl _) (.cons (.tmp rfl) .nil) (List.nil_sublist _) ?_
    exact ⟨rfl, rfl⟩
end Go.Proofs.Ytegceppoioeeaaa
