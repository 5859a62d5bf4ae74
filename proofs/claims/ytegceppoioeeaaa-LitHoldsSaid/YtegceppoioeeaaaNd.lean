/- Walks: the example of the chapter on literals; a literal oriented: the statement. -/
import Derived.Test.YtegceppoioeeaaaNc
set_option linter.unusedVariables false
set_option linter.unusedSimpArgs false
set_option linter.unnecessarySimpa false
/- short -/
namespace Go.Proofs.Ytegceppoioeeaaa
open Go Lg

theorem awake9_does (I : Imm) :
    Does Try.prog 17 [] I [] (fun v I' δ' => v = .bool true ∧ δ' = []) := by
  have hA1 : A9.l.size ≤ 1000000000 := by decide +kernel
  have hA2 : A9.r.size ≤ 1000000000 := by decide +kernel
  have hB1 : B9.l.size ≤ 1000000000 := by decide +kernel
  have hB2 : B9.r.size ≤ 1000000000 := by decide +kernel
  have hz : zeroT.size ≤ 1000000000 := by decide +kernel
  refine Does.intro Try.func17 rfl Try.ntmps17 rfl fun w0 => ?_
  refine code_seq ?_
  refine code_region ?_
  refine op_v (v_assign rfl) rfl ?_
  refine ops_nil ?_
  refine post_next ?_
  refine code_seq ?_
  refine code_region ?_
  refine op_call pl49 rfl rfl ((Fun_does (by unfold InR; omega) (RepS.nil _))) Parts.none ?_
  rintro v5 I5 _ hI5 ⟨hv5, rfl⟩
  change RepT I5 v5 a9 at hv5
  obtain ⟨a5, c5, rfl, _⟩ := hv5.shape
  refine op_call pl50 rfl rfl ((Var_does (by omega) (by omega))) Parts.none ?_
  rintro v6 I6 _ hI6 ⟨hv6, rfl⟩
  change RepT I6 v6 x8 at hv6
  obtain ⟨a6, c6, rfl, _⟩ := hv6.shape
  refine o_buildSlice (xs := [(Go.Operand.tmp 6)]) Try.underlying23 bs25 rfl rfl rfl rfl rfl (fun b7 => ?_)
  refine OpsJ.freezeRow Del.here ?_
  rintro I7 a7 c7 hI7 hq hc7 hl7 hcells7
  cases hq
  refine op_call pl49 rfl rfl ((Fun_does (by unfold InR; omega) (RowT.repS (ts := [x8]) rfl hcells7 (RowT.one (hv6.mono hI7)) hc7 (by omega)))) Parts.none ?_
  rintro v8 I8 _ hI8 ⟨hv8, rfl⟩
  change RepT I8 v8 fx8 at hv8
  obtain ⟨a8, c8, rfl, _⟩ := hv8.shape
  refine op_v (v_build (cs := liC A9 a5 c5 a8 c8) bl27 rfl rfl) rfl ?_
  have hA : RepL I8 _ A9 := ⟨a5, c5, a8, c8, rfl, hv5.mono Imm.leA, hv8.mono Imm.leA⟩
  refine o_alloc z27 rfl rfl (fun b1 => ?_)
  refine o_store ty27 rfl rfl rfl rfl rfl (by repeat (first | exact Swap.here | apply Swap.there)) rfl ?_
  refine ops_nil ?_
  refine post_next ?_
  refine code_seq ?_
  refine code_region ?_
  refine op_v (v_loadA ty27 rfl rfl) rfl ?_
  refine op_call pl51 rfl rfl ((Turn_does (hA.mono Imm.leA))) Parts.none ?_
  rintro v11 I11 _ hI11 ⟨hv11, rfl⟩
  change RepL I11 v11 B9 at hv11
  obtain ⟨ba, bc, bd, be, rfl, hbl, hbr⟩ := hv11
  have hB : RepL I11 _ B9 := ⟨ba, bc, bd, be, rfl, hbl, hbr⟩
  refine o_alloc z27 rfl rfl (fun b2 => ?_)
  refine o_store ty27 rfl rfl rfl rfl rfl (by repeat (first | exact Swap.here | apply Swap.there)) rfl ?_
  refine ops_nil ?_
  refine post_next ?_
  refine code_seq_meet (fun σ' I' δ' => ∃ (b1' b2' b3' : Nat) (oa : Option Addr) (oc : Nat) (od : Option Addr) (oe : Nat), σ' = [(1, .pointer (some ⟨b1', 0, none⟩)), (2, .pointer (some ⟨b2', 0, none⟩)), (3, .pointer (some ⟨b3', 0, none⟩)), (4, .int .i64 0)] ∧ I11.le I' ∧ RepL I' (.agg #[.bool B9.neg, .int .i64 B9.l.head, .slice oa B9.l.args.length oc, .int .i64 B9.r.head, .slice od B9.r.args.length oe]) B9 ∧ δ' = [.box b3' 27 (liC B9 oa oc od oe), .box b2' 27 (liC B9 ba bc bd be), .box b1' 27 (liC A9 a5 c5 a8 c8)]) ?_ ?_
  · refine code_draw (.fl 1 (.two 0 6 (.two 2 6 (.fl 3 (.fl 4 (.fl 5 (.ef 6 (.ef 7 (.ef 8 .done)))))) (.ef 2 (.fl 3 (.fl 4 (.fl 5 (.ef 7 (.ef 8 .done))))))) (.ef 0 (.ef 2 (.fl 3 (.fl 4 (.fl 5 (.ef 7 (.ef 8 .done))))))))) (fun _ => _) mixed (by kernel_rfl) (by kernel_rfl) (fun _ => (List.Sublist.refl _)) ?_
    refine e_fl rfl rfl (fun hs_ => PF.mk rfl (v_loadA ty27 rfl rfl) hs_) ?_
    refine e_two rfl (by intro cs b hc; cases hc) (by intro c hc; cases hc) rfl (by intro cs b hc; cases hc) (by intro c hc; cases hc) ?_ ?_
    · refine op_call pl52 rfl rfl ((toy9_does _)) Parts.none ?_
      rintro v13 I13 _ hI13 ⟨hv13, rfl⟩
      refine ops_nil ?_
      refine e_next rfl side_allA ?_
      refine e_two rfl (by intro cs b hc; cases hc) (by intro c hc; cases hc) rfl (by intro cs b hc; cases hc) (by intro c hc; cases hc) ?_ ?_
      · refine op_call pl16 rfl rfl ((LOrient_does (hv13.mono Imm.leA) (hA.mono Imm.leA) hA1 hA2)) Parts.none ?_
        rintro v15 I15 _ hI15 ⟨⟨v15o, rfl, hv15⟩, rfl⟩
        rw [g9, if_pos rfl, o9] at hv15
        rw [g9]
        obtain ⟨oa, oc, od, oe, rfl, hol, hor⟩ := hv15
        have hO : RepL I15 _ B9 := ⟨oa, oc, od, oe, rfl, hol, hor⟩
        refine ops_nil ?_
        refine e_next rfl (side_nil (by kernel_rfl)) ?_
        refine e_fl rfl rfl (fun hs_ => PF.mk rfl (v_move rfl) hs_) ?_
        refine e_fl rfl rfl (fun hs_ => PF.mk rfl (v_extract rfl rfl) hs_) ?_
        refine e_fl rfl rfl (fun hs_ => PF.mk rfl (v_extract rfl rfl) hs_) ?_
        refine e_eff rfl (by intro cs b hc; cases hc) (by intro c hc; cases hc) ?_
        refine o_alloc z27 rfl rfl (fun b3 => ?_)
        refine ops_nil ?_
        refine e_next rfl side_allA ?_
        refine e_eff rfl (by intro cs b hc; cases hc) (by intro c hc; cases hc) ?_
        refine o_store ty27 rfl rfl rfl rfl rfl (by repeat (first | exact Swap.here | apply Swap.there)) rfl ?_
        refine ops_nil ?_
        refine e_next_ side_allA ?_
        refine e_eff rfl (by intro cs b hc; cases hc) (by intro c hc; cases hc) ?_
        refine op_v (v_assign rfl) rfl ?_
        refine ops_nil ?_
        refine e_next rfl (side_nil (by kernel_rfl)) ?_
        refine e_done ?_
        refine post_meet _ ⟨b1, b2, b3, oa, oc, od, oe, rfl, Imm.leA, hO.mono Imm.leA, rfl⟩ ⟨rfl, rfl, rfl, rfl, trivial⟩
      · refine o_alloc z27 rfl rfl (fun b3 => ?_)
        refine ops_nil ?_
        refine e_next rfl side_allA ?_
        refine e_eff rfl (by intro cs b hc; cases hc) (by intro c hc; cases hc) ?_
        refine op_call pl16 rfl rfl ((LOrient_does (hv13.mono Imm.leA) (hA.mono Imm.leA) hA1 hA2)) Parts.none ?_
        rintro v15 I15 _ hI15 ⟨⟨v15o, rfl, hv15⟩, rfl⟩
        rw [g9, if_pos rfl, o9] at hv15
        rw [g9]
        obtain ⟨oa, oc, od, oe, rfl, hol, hor⟩ := hv15
        have hO : RepL I15 _ B9 := ⟨oa, oc, od, oe, rfl, hol, hor⟩
        refine ops_nil ?_
        refine e_next rfl (side_nil (by kernel_rfl)) ?_
        refine e_fl rfl rfl (fun hs_ => PF.mk rfl (v_move rfl) hs_) ?_
        refine e_fl rfl rfl (fun hs_ => PF.mk rfl (v_extract rfl rfl) hs_) ?_
        refine e_fl rfl rfl (fun hs_ => PF.mk rfl (v_extract rfl rfl) hs_) ?_
        refine e_eff rfl (by intro cs b hc; cases hc) (by intro c hc; cases hc) ?_
        refine o_store ty27 rfl rfl rfl rfl rfl (by repeat (first | exact Swap.here | apply Swap.there)) rfl ?_
        refine ops_nil ?_
        refine e_next_ side_allA ?_
        refine e_eff rfl (by intro cs b hc; cases hc) (by intro c hc; cases hc) ?_
        refine op_v (v_assign rfl) rfl ?_
        refine ops_nil ?_
        refine e_next rfl (side_nil (by kernel_rfl)) ?_
        refine e_done ?_
        refine post_meet _ ⟨b1, b2, b3, oa, oc, od, oe, rfl, Imm.leA, hO.mono Imm.leA, rfl⟩ ⟨rfl, rfl, rfl, rfl, trivial⟩
    · refine o_alloc z27 rfl rfl (fun b3 => ?_)
      refine ops_nil ?_
      refine e_next rfl side_allA ?_
      refine e_eff rfl (by intro cs b hc; cases hc) (by intro c hc; cases hc) ?_
      refine op_call pl52 rfl rfl ((toy9_does _)) Parts.none ?_
      rintro v13 I13 _ hI13 ⟨hv13, rfl⟩
      refine ops_nil ?_
      refine e_next rfl side_allA ?_
      refine e_eff rfl (by intro cs b hc; cases hc) (by intro c hc; cases hc) ?_
      refine op_call pl16 rfl rfl ((LOrient_does (hv13.mono Imm.leA) (hA.mono Imm.leA) hA1 hA2)) Parts.none ?_
      rintro v15 I15 _ hI15 ⟨⟨v15o, rfl, hv15⟩, rfl⟩
      rw [g9, if_pos rfl, o9] at hv15
      rw [g9]
      obtain ⟨oa, oc, od, oe, rfl, hol, hor⟩ := hv15
      have hO : RepL I15 _ B9 := ⟨oa, oc, od, oe, rfl, hol, hor⟩
      refine ops_nil ?_
      refine e_next rfl (side_nil (by kernel_rfl)) ?_
      refine e_fl rfl rfl (fun hs_ => PF.mk rfl (v_move rfl) hs_) ?_
      refine e_fl rfl rfl (fun hs_ => PF.mk rfl (v_extract rfl rfl) hs_) ?_
      refine e_fl rfl rfl (fun hs_ => PF.mk rfl (v_extract rfl rfl) hs_) ?_
      refine e_eff rfl (by intro cs b hc; cases hc) (by intro c hc; cases hc) ?_
      refine o_store ty27 rfl rfl rfl rfl rfl (by repeat (first | exact Swap.here | apply Swap.there)) rfl ?_
      refine ops_nil ?_
      refine e_next_ side_allA ?_
      refine e_eff rfl (by intro cs b hc; cases hc) (by intro c hc; cases hc) ?_
      refine op_v (v_assign rfl) rfl ?_
      refine ops_nil ?_
      refine e_next rfl (side_nil (by kernel_rfl)) ?_
      refine e_done ?_
      refine post_meet _ ⟨b1, b2, b3, oa, oc, od, oe, rfl, Imm.leA, hO.mono Imm.leA, rfl⟩ ⟨rfl, rfl, rfl, rfl, trivial⟩
  · rintro _ I3 _ ⟨b1', b2', b3', oa, oc, od, oe, rfl, hI3, hO, rfl⟩
    refine code_seq ?_
    refine code_draw (.fl 0 (.fl 1 (.ef 2 (.fl 3 (.fl 4 (.fl 5 (.fl 6 (.fl 7 (.fl 8 (.fl 9 (.ef 10 (.fl 11 (.fl 12 (.fl 14 (.ef 13 (.ef 15 (.fl 16 (.fl 17 (.fl 18 (.fl 19 (.ef 20 (.fl 21 (.ef 22 .done))))))))))))))))))))))) (fun _ => _) mixed (by kernel_rfl) (by kernel_rfl) (fun _ => (List.Sublist.refl _)) ?_
    refine e_fl rfl rfl (fun hs_ => PF.mk rfl (v_loadA ty27 rfl rfl) hs_) ?_
    refine e_fl rfl rfl (fun hs_ => PF.mk rfl (v_loadA ty27 rfl rfl) hs_) ?_
    refine e_eff rfl (by intro cs b hc; cases hc) (by intro c hc; cases hc) ?_
    refine op_call pl20 rfl rfl ((LSame_does (hA.mono Imm.leA) (hB.mono Imm.leA) hA1 hA2 hB1 hB2)) Parts.none ?_
    rintro _ I20 _ hI20 ⟨rfl, rfl⟩
    rw [s9]
    refine ops_nil ?_
    refine e_next rfl (side_nil (by kernel_rfl)) ?_
    refine e_fl rfl rfl (fun hs_ => PF.mk rfl (v_move rfl) hs_) ?_
    first | refine e_fl rfl rfl (fun hs_ => PF.mkg rfl rfl rfl (v_move rfl) hs_) ?_ | refine e_fl rfl rfl (fun hs_ => PF.mks rfl (by intro c hc; cases hc) rfl rfl (by simp [undef]) hs_) ?_
    first | refine e_fl rfl rfl (fun hs_ => PF.mkg rfl rfl rfl (v_cmptA rfl rfl rfl) hs_) ?_ | refine e_fl rfl rfl (fun hs_ => PF.mkg rfl rfl rfl (v_cmpfA rfl rfl rfl) hs_) ?_ | refine e_fl rfl rfl (fun hs_ => PF.mkg rfl rfl rfl (v_cmp rfl rfl rfl) hs_) ?_ | refine e_fl rfl rfl (fun hs_ => PF.mks rfl (by intro c hc; cases hc) rfl rfl (by simp [undef]) hs_) ?_
    first | refine e_fl rfl rfl (fun hs_ => PF.mk rfl (v_pickt rfl rfl) hs_) ?_ | refine e_fl rfl rfl (fun hs_ => PF.mk rfl (v_pickf rfl rfl) hs_) ?_ | refine e_fl rfl rfl (fun hs_ => PF.mk rfl (v_pickb rfl rfl rfl) hs_) ?_
    refine e_fl rfl rfl (fun hs_ => PF.mk rfl (v_move rfl) hs_) ?_
    first | refine e_fl rfl rfl (fun hs_ => PF.mkg rfl rfl rfl (v_loadA ty27 rfl rfl) hs_) ?_ | refine e_fl rfl rfl (fun hs_ => PF.mks rfl (by intro c hc; cases hc) rfl rfl (by simp [undef]) hs_) ?_
    first | refine e_fl rfl rfl (fun hs_ => PF.mkg rfl rfl rfl (v_loadA ty27 rfl rfl) hs_) ?_ | refine e_fl rfl rfl (fun hs_ => PF.mks rfl (by intro c hc; cases hc) rfl rfl (by simp [undef]) hs_) ?_
    refine e_eff rfl (by intro cs b hc; cases hc) (by intro c hc; cases hc) ?_
    first
      | (refine op_want rfl rfl ?_
         refine op_call pl21 rfl rfl ((Exact_does (hO.mono Imm.leA) (hB.mono Imm.leA) hB1 hB2 hB1 hB2)) Parts.none ?_
         rintro _ I28 _ hI28 ⟨rfl, rfl⟩
         rw [x9])
      | (refine op_skip rfl rfl (by simp [undef]) rfl ?_)
    refine ops_nil ?_
    refine e_next rfl side_allA ?_
    first | refine e_fl rfl rfl (fun hs_ => PF.mk rfl (v_pickt rfl rfl) hs_) ?_ | refine e_fl rfl rfl (fun hs_ => PF.mk rfl (v_pickf rfl rfl) hs_) ?_ | refine e_fl rfl rfl (fun hs_ => PF.mk rfl (v_pickb rfl rfl rfl) hs_) ?_
    refine e_fl rfl rfl (fun hs_ => PF.mk rfl (v_move rfl) hs_) ?_
    first | refine e_fl rfl rfl (fun hs_ => PF.mkg rfl rfl rfl (v_loadA ty27 rfl rfl) hs_) ?_ | refine e_fl rfl rfl (fun hs_ => PF.mks rfl (by intro c hc; cases hc) rfl rfl (by simp [undef]) hs_) ?_
    refine e_eff rfl (by intro cs b hc; cases hc) (by intro c hc; cases hc) ?_
    first
      | (refine op_want rfl rfl ?_
         refine op_call pl52 rfl rfl ((toy9_does _)) Parts.none ?_
         rintro v31 I31 _ hI31 ⟨hv31, rfl⟩)
      | (refine op_skip rfl rfl (by simp [undef]) rfl ?_)
    refine ops_nil ?_
    refine e_next rfl side_allA ?_
    refine e_eff rfl (by intro cs b hc; cases hc) (by intro c hc; cases hc) ?_
    first
      | (refine op_want rfl rfl ?_
         refine op_call pl18 rfl rfl ((LCheck_does (hv31.mono Imm.leA) (hA.mono Imm.leA) hA1 hA2)) Parts.none ?_
         rintro _ I33 _ hI33 ⟨rfl, rfl⟩
         rw [g9])
      | (refine op_skip rfl rfl (by simp [undef]) rfl ?_)
    refine ops_nil ?_
    refine e_next rfl side_allA ?_
    first | refine e_fl rfl rfl (fun hs_ => PF.mkg rfl rfl rfl (v_cmptA rfl rfl rfl) hs_) ?_ | refine e_fl rfl rfl (fun hs_ => PF.mkg rfl rfl rfl (v_cmpfA rfl rfl rfl) hs_) ?_ | refine e_fl rfl rfl (fun hs_ => PF.mkg rfl rfl rfl (v_cmp rfl rfl rfl) hs_) ?_ | refine e_fl rfl rfl (fun hs_ => PF.mks rfl (by intro c hc; cases hc) rfl rfl (by simp [undef]) hs_) ?_
    first | refine e_fl rfl rfl (fun hs_ => PF.mk rfl (v_pickt rfl rfl) hs_) ?_ | refine e_fl rfl rfl (fun hs_ => PF.mk rfl (v_pickf rfl rfl) hs_) ?_ | refine e_fl rfl rfl (fun hs_ => PF.mk rfl (v_pickb rfl rfl rfl) hs_) ?_
    refine e_fl rfl rfl (fun hs_ => PF.mk rfl (v_move rfl) hs_) ?_
    first | refine e_fl rfl rfl (fun hs_ => PF.mkg rfl rfl rfl (v_build bl27 rfl rfl) hs_) ?_ | refine e_fl rfl rfl (fun hs_ => PF.mks rfl (by intro c hc; cases hc) rfl rfl (by simp [undef]) hs_) ?_
    refine e_eff rfl (by intro cs b hc; cases hc) (by intro c hc; cases hc) ?_
    first
      | (refine op_want rfl rfl ?_
         refine op_call pl27 rfl rfl ((LTrivial_does (x := zeroLi) ⟨none, 0, none, 0, rfl, zeroT_rep _, zeroT_rep _⟩ hz hz)) Parts.none ?_
         rintro _ I38 _ hI38 ⟨rfl, rfl⟩)
      | (refine op_skip rfl rfl (by simp [undef]) rfl ?_)
    refine ops_nil ?_
    refine e_next rfl side_allA ?_
    first | refine e_fl rfl rfl (fun hs_ => PF.mk rfl (v_pickt rfl rfl) hs_) ?_ | refine e_fl rfl rfl (fun hs_ => PF.mk rfl (v_pickf rfl rfl) hs_) ?_ | refine e_fl rfl rfl (fun hs_ => PF.mk rfl (v_pickb rfl rfl rfl) hs_) ?_
    refine e_eff rfl (by intro cs b hc; cases hc) (by intro c hc; cases hc) ?_
    refine op_v (v_assign rfl) rfl ?_
    refine ops_nil ?_
    refine e_next rfl (side_nil (by kernel_rfl)) ?_
    refine e_done ?_
    refine post_next ?_
    refine code_ret ?_
    refine post_ret (rs := [.tmp 0]) rfl (List.Perm.refl _) (.cons (.tmp rfl) .nil) (List.nil_sublist _) ?_
    exact ⟨rfl, rfl⟩
end Go.Proofs.Ytegceppoioeeaaa
