/- Walks: the example of the chapter on weights; the statement on names. -/
import Derived.Test.YtdcklngleglbbaaGg
set_option linter.unusedVariables false
set_option linter.unusedSimpArgs false
namespace Go.Proofs.Ytdcklngleglbbaa
open Go Lg

theorem awake7_does (I : Imm) :
    Does Try.prog 36 [] I [] (fun v I' δ' => v = .bool true ∧ δ' = []) := by
  have hC : tC.size = 4 := by decide +kernel
  have hD : tD.size = 2 := by decide +kernel
  refine Does.intro Try.func36 rfl Try.ntmps36 rfl fun w0 => ?_
  refine code_seq ?_
  refine code_region ?_
  refine op_v (v_assign rfl) rfl ?_
  refine ops_nil ?_
  refine post_next ?_
  refine code_seq ?_
  refine code_region ?_
  refine op_call pl58 rfl rfl ((Var_does (by omega) (by omega))) Parts.none ?_
  rintro v7 I7 _ hI7 ⟨hv7, rfl⟩
  change RepT I7 v7 (.mk (-1) []) at hv7
  obtain ⟨a7, c7, rfl, _⟩ := hv7.shape
  refine o_alloc z24 rfl rfl (fun b1 => ?_)
  refine o_store ty24 rfl rfl rfl rfl rfl (by first | exact Swap.here | exact Swap.there Swap.here | exact Swap.there (Swap.there Swap.here) | exact Swap.there (Swap.there (Swap.there Swap.here)) | exact Swap.there (Swap.there (Swap.there (Swap.there Swap.here))) | exact Swap.there (Swap.there (Swap.there (Swap.there (Swap.there Swap.here))))) rfl ?_
  refine ops_nil ?_
  refine post_next ?_
  refine code_seq ?_
  refine code_draw (.fl 0 (.fl 1 (.two 2 6 (.two 3 6 (.two 4 6 (.two 5 6 (.ef 6 (.ef 7 .done)) (.ef 5 (.ef 7 .done))) (.ef 4 (.ef 5 (.ef 7 .done)))) (.ef 3 (.ef 4 (.ef 5 (.ef 7 .done))))) (.ef 2 (.ef 3 (.ef 4 (.ef 5 (.ef 7 .done)))))))) (fun _ => _) mixed (by kernel_rfl) (by kernel_rfl) (fun _ => (List.Sublist.refl _)) ?_
  refine e_float rfl rfl (fun hs_ => PF.mk rfl (v_load ty24 rfl (by first | exact Has.here | exact Has.there Has.here | exact Has.there (Has.there Has.here) | exact Has.there (Has.there (Has.there Has.here)) | exact Has.there (Has.there (Has.there (Has.there Has.here))) | exact Has.there (Has.there (Has.there (Has.there (Has.there Has.here)))) | exact Has.there (Has.there (Has.there (Has.there (Has.there (Has.there Has.here)))))) rfl) hs_) (by repeat (first | exact Imm.le_refl _ | assumption | refine Imm.le_trans ?_ (by assumption))) (by intro x hx; first | exact hx | exact List.mem_cons_of_mem _ hx | exact List.mem_append_right _ hx | (simp only [List.mem_cons, List.not_mem_nil, or_false] at hx; repeat' (first | (subst hx; simp [cellsL]; done) | rcases hx with hx | hx)) | simp_all) ?_
  refine e_float rfl rfl (fun hs_ => PF.mk rfl (v_load ty24 rfl (by first | exact Has.here | exact Has.there Has.here | exact Has.there (Has.there Has.here) | exact Has.there (Has.there (Has.there Has.here)) | exact Has.there (Has.there (Has.there (Has.there Has.here))) | exact Has.there (Has.there (Has.there (Has.there (Has.there Has.here)))) | exact Has.there (Has.there (Has.there (Has.there (Has.there (Has.there Has.here)))))) rfl) hs_) (by repeat (first | exact Imm.le_refl _ | assumption | refine Imm.le_trans ?_ (by assumption))) (by intro x hx; first | exact hx | exact List.mem_cons_of_mem _ hx | exact List.mem_append_right _ hx | (simp only [List.mem_cons, List.not_mem_nil, or_false] at hx; repeat' (first | (subst hx; simp [cellsL]; done) | rcases hx with hx | hx)) | simp_all) ?_
  refine e_two rfl (by intro cs b hc; cases hc) (by intro c hc; cases hc) rfl (by intro cs b hc; cases hc) (by intro c hc; cases hc) ?_ ?_
  · refine o_buildSlice (xs := [(Go.Operand.tmp 9)]) Try.underlying22 bs24 rfl rfl rfl rfl rfl (fun b10 => ?_)
    refine OpsJ.freezeRow Del.here ?_
    rintro I10 a10 c10 hI10 hq hc10 hl10 hcells10
    cases hq
    refine ops_nil ?_
    refine e_next rfl (side_all (by repeat (first | exact Imm.le_refl _ | assumption | refine Imm.le_trans ?_ (by assumption))) (fun _ => (by intro x hx; first | exact hx | exact List.mem_cons_of_mem _ hx | exact List.mem_append_right _ hx | (simp only [List.mem_cons, List.not_mem_nil, or_false] at hx; repeat' (first | (subst hx; simp [cellsL]; done) | rcases hx with hx | hx)) | simp_all))) ?_
    refine e_two rfl (by intro cs b hc; cases hc) (by intro c hc; cases hc) rfl (by intro cs b hc; cases hc) (by intro c hc; cases hc) ?_ ?_
    · refine op_call pl53 rfl rfl ((Fun_does (by unfold InR; omega) (RowT.repS rfl hcells10 (RowT.one (hv7.mono hI10)) hc10 (by omega)))) Parts.none ?_
      rintro v11 I11 _ hI11 ⟨hv11, rfl⟩
      obtain ⟨a11, c11, rfl, _⟩ := hv11.shape
      refine ops_nil ?_
      refine e_next rfl (side_all (by repeat (first | exact Imm.le_refl _ | assumption | refine Imm.le_trans ?_ (by assumption))) (fun _ => (by intro x hx; first | exact hx | exact List.mem_cons_of_mem _ hx | exact List.mem_append_right _ hx | (simp only [List.mem_cons, List.not_mem_nil, or_false] at hx; repeat' (first | (subst hx; simp [cellsL]; done) | rcases hx with hx | hx)) | simp_all))) ?_
      refine e_two rfl (by intro cs b hc; cases hc) (by intro c hc; cases hc) rfl (by intro cs b hc; cases hc) (by intro c hc; cases hc) ?_ ?_
      · refine o_buildSlice (xs := [(Go.Operand.tmp 8), (Go.Operand.tmp 11)]) Try.underlying22 bs24 rfl rfl rfl rfl rfl (fun b12 => ?_)
        refine OpsJ.freezeRow Del.here ?_
        rintro I12 a12 c12 hI12 hq hc12 hl12 hcells12
        cases hq
        refine ops_nil ?_
        refine e_next rfl (side_nil (by kernel_rfl)) ?_
        refine e_two rfl (by intro cs b hc; cases hc) (by intro c hc; cases hc) rfl (by intro cs b hc; cases hc) (by intro c hc; cases hc) ?_ ?_
        · refine op_call pl53 rfl rfl ((Fun_does (by unfold InR; omega) (RowT.repS rfl hcells12 ((RowT.one (hv7.mono (by repeat (first | exact Imm.le_refl _ | assumption | refine Imm.le_trans ?_ (by assumption))))).app (RowT.one (hv11.mono hI12))) hc12 (by omega)))) Parts.none ?_
          rintro v13 I13 _ hI13 ⟨hv13, rfl⟩
          change RepT I13 _ tC at hv13
          obtain ⟨a13, c13, rfl, _⟩ := hv13.shape
          refine ops_nil ?_
          refine e_next rfl (side_nil (by kernel_rfl)) ?_
          refine e_eff rfl (by intro cs b hc; cases hc) (by intro c hc; cases hc) ?_
          refine o_alloc z24 rfl rfl (fun b2 => ?_)
          refine ops_nil ?_
          refine e_next rfl (side_nil (by kernel_rfl)) ?_
          refine e_eff rfl (by intro cs b hc; cases hc) (by intro c hc; cases hc) ?_
          refine o_store ty24 rfl rfl rfl rfl rfl (by first | exact Swap.here | exact Swap.there Swap.here | exact Swap.there (Swap.there Swap.here) | exact Swap.there (Swap.there (Swap.there Swap.here)) | exact Swap.there (Swap.there (Swap.there (Swap.there Swap.here))) | exact Swap.there (Swap.there (Swap.there (Swap.there (Swap.there Swap.here))))) rfl ?_
          refine ops_nil ?_
          refine e_next_ (side_nil (by kernel_rfl)) ?_
          refine e_done ?_
          refine post_next ?_
          refine code_seq ?_
          refine code_draw (.fl 1 (.ef 0 (.ef 2 (.fl 3 (.fl 4 (.fl 5 (.ef 6 (.ef 7 .done)))))))) (fun _ => _) mixed (by kernel_rfl) (by kernel_rfl) (fun _ => (List.Sublist.refl _)) ?_
          refine e_float rfl rfl (fun hs_ => PF.mk rfl (v_load ty24 rfl (by first | exact Has.here | exact Has.there Has.here | exact Has.there (Has.there Has.here) | exact Has.there (Has.there (Has.there Has.here)) | exact Has.there (Has.there (Has.there (Has.there Has.here))) | exact Has.there (Has.there (Has.there (Has.there (Has.there Has.here)))) | exact Has.there (Has.there (Has.there (Has.there (Has.there (Has.there Has.here)))))) rfl) hs_) (by repeat (first | exact Imm.le_refl _ | assumption | refine Imm.le_trans ?_ (by assumption))) (by intro x hx; first | exact hx | exact List.mem_cons_of_mem _ hx | exact List.mem_append_right _ hx | (simp only [List.mem_cons, List.not_mem_nil, or_false] at hx; repeat' (first | (subst hx; simp [cellsL]; done) | rcases hx with hx | hx)) | simp_all) ?_
          refine e_eff rfl (by intro cs b hc; cases hc) (by intro c hc; cases hc) ?_
          refine op_call pl62 rfl rfl (toy_does) Parts.none ?_
          rintro v15 I15 _ hI15 ⟨hg15, rfl⟩
          refine ops_nil ?_
          refine e_next rfl (side_all (by repeat (first | exact Imm.le_refl _ | assumption | refine Imm.le_trans ?_ (by assumption))) (fun _ => (by intro x hx; first | exact hx | exact List.mem_cons_of_mem _ hx | exact List.mem_append_right _ hx | (simp only [List.mem_cons, List.not_mem_nil, or_false] at hx; repeat' (first | (subst hx; simp [cellsL]; done) | rcases hx with hx | hx)) | simp_all))) ?_
          refine e_eff rfl (by intro cs b hc; cases hc) (by intro c hc; cases hc) ?_
          refine op_call pl44 rfl rfl ((GWeight_does hg15 (hv13.mono (by repeat (first | exact Imm.le_refl _ | assumption | refine Imm.le_trans ?_ (by assumption)))) (by omega))) Parts.none ?_
          rintro v17 I17 _ hI17 ⟨rfl, rfl⟩
          rw [toy_C, if_pos rfl, toy_Cw]
          refine ops_nil ?_
          refine e_next rfl (side_nil (by kernel_rfl)) ?_
          refine e_float rfl rfl (fun hs_ => PF.mk rfl (v_move rfl) hs_) (by repeat (first | exact Imm.le_refl _ | assumption | refine Imm.le_trans ?_ (by assumption))) (by intro x hx; first | exact hx | exact List.mem_cons_of_mem _ hx | exact List.mem_append_right _ hx | (simp only [List.mem_cons, List.not_mem_nil, or_false] at hx; repeat' (first | (subst hx; simp [cellsL]; done) | rcases hx with hx | hx)) | simp_all) ?_
          refine e_float rfl rfl (fun hs_ => PF.mk rfl (v_extract rfl rfl) hs_) (by repeat (first | exact Imm.le_refl _ | assumption | refine Imm.le_trans ?_ (by assumption))) (by intro x hx; first | exact hx | exact List.mem_cons_of_mem _ hx | exact List.mem_append_right _ hx | (simp only [List.mem_cons, List.not_mem_nil, or_false] at hx; repeat' (first | (subst hx; simp [cellsL]; done) | rcases hx with hx | hx)) | simp_all) ?_
          refine e_float rfl rfl (fun hs_ => PF.mk rfl (v_extract rfl rfl) hs_) (by repeat (first | exact Imm.le_refl _ | assumption | refine Imm.le_trans ?_ (by assumption))) (by intro x hx; first | exact hx | exact List.mem_cons_of_mem _ hx | exact List.mem_append_right _ hx | (simp only [List.mem_cons, List.not_mem_nil, or_false] at hx; repeat' (first | (subst hx; simp [cellsL]; done) | rcases hx with hx | hx)) | simp_all) ?_
          refine e_eff rfl (by intro cs b hc; cases hc) (by intro c hc; cases hc) ?_
          refine op_v (v_assign rfl) rfl ?_
          refine ops_nil ?_
          refine e_next rfl (side_all (by repeat (first | exact Imm.le_refl _ | assumption | refine Imm.le_trans ?_ (by assumption))) (fun _ => (by intro x hx; first | exact hx | exact List.mem_cons_of_mem _ hx | exact List.mem_append_right _ hx | (simp only [List.mem_cons, List.not_mem_nil, or_false] at hx; repeat' (first | (subst hx; simp [cellsL]; done) | rcases hx with hx | hx)) | simp_all))) ?_
          refine e_eff rfl (by intro cs b hc; cases hc) (by intro c hc; cases hc) ?_
          refine op_v (v_assign rfl) rfl ?_
          refine ops_nil ?_
          refine e_next rfl (side_nil (by kernel_rfl)) ?_
          refine e_done ?_
          refine post_next ?_
          refine code_seq ?_
          refine code_region ?_
          refine op_call pl62 rfl rfl (toy_does) Parts.none ?_
          rintro v21 I21 _ hI21 ⟨hg21, rfl⟩
          refine op_call pl37 rfl rfl ((Find_does hg21)) Parts.none ?_
          rintro v22 I22 _ hI22 ⟨rfl, rfl⟩
          rw [toy_find]
          refine op_v (v_move rfl) rfl ?_
          refine op_v (v_extract rfl rfl) rfl ?_
          refine op_v (v_extract rfl rfl) rfl ?_
          refine op_v (v_assign rfl) rfl ?_
          refine op_v (v_assign rfl) rfl ?_
          refine ops_nil ?_
          refine post_next ?_
          refine code_seq ?_
          refine code_region ?_
          refine op_v (v_move rfl) rfl ?_
          first | refine op_v (v_cmpt rfl rfl rfl (by first | omega | (simp; done) | (simp; omega))) rfl ?_ | refine op_v (v_cmpf rfl rfl rfl (by first | omega | (simp; done) | (simp; omega))) rfl ?_ | refine op_v (v_cmp rfl rfl rfl) rfl ?_
          refine op_v (v_move rfl) rfl ?_
          first
            | (refine op_want rfl rfl ?_
               refine op_v (v_move rfl) rfl ?_)
            | (refine op_skip rfl rfl (by simp [undef]) rfl ?_)
          first
            | (refine op_want rfl rfl ?_
               first | refine op_v (v_cmpt rfl rfl rfl (by first | omega | (simp; done) | (simp; omega))) rfl ?_ | refine op_v (v_cmpf rfl rfl rfl (by first | omega | (simp; done) | (simp; omega))) rfl ?_ | refine op_v (v_cmp rfl rfl rfl) rfl ?_)
            | (refine op_skip rfl rfl (by simp [undef]) rfl ?_)
          first | refine op_v (v_pickt rfl rfl) rfl ?_ | refine op_v (v_pickf rfl rfl) rfl ?_ | refine op_v (v_pickb rfl rfl rfl) rfl ?_
          refine op_v (v_move rfl) rfl ?_
          first
            | (refine op_want rfl rfl ?_
               refine op_v (v_load ty24 rfl (by first | exact Has.here | exact Has.there Has.here | exact Has.there (Has.there Has.here) | exact Has.there (Has.there (Has.there Has.here)) | exact Has.there (Has.there (Has.there (Has.there Has.here))) | exact Has.there (Has.there (Has.there (Has.there (Has.there Has.here)))) | exact Has.there (Has.there (Has.there (Has.there (Has.there (Has.there Has.here)))))) rfl) rfl ?_)
            | (refine op_skip rfl rfl (by simp [undef]) rfl ?_)
          first
            | (refine op_want rfl rfl ?_
               refine op_call pl48 rfl rfl ((Counts_does (hv13.mono (by repeat (first | exact Imm.le_refl _ | assumption | refine Imm.le_trans ?_ (by assumption)))) (by omega))) Parts.none ?_
               rintro v33 I33 _ hI33 ⟨⟨cs33, hcs33, hC33⟩, rfl⟩
               obtain rfl := toy_counts hC33)
            | (refine op_skip rfl rfl (by simp [undef]) rfl ?_)
          first
            | (refine op_want rfl rfl ?_
               refine o_buildSlice (xs := [(Go.Operand.const (Go.Value.int Go.IntKind.i64 2))]) Try.underlying25 bs3 rfl rfl rfl rfl rfl (fun b34 => ?_)
               refine OpsJ.freezeRow Del.here ?_
               rintro I34 a34 c34 hI34 hq hc34 hl34 hcells34
               cases hq)
            | (refine op_skip rfl rfl (by simp [undef]) rfl ?_)
          first
            | (refine op_want rfl rfl ?_
               refine op_call pl31 rfl rfl ((Ints_does _ (hcs33.mono hI34) (RInts.lit (xs := [2]) hcells34 hc34 rfl))) Parts.none ?_
               rintro v35 I35 _ hI35 ⟨rfl, rfl⟩
               rw [show decide (([2] : List Int) = [2]) = true by decide])
            | (refine op_skip rfl rfl (by simp [undef]) rfl ?_)
          first | refine op_v (v_pickt rfl rfl) rfl ?_ | refine op_v (v_pickf rfl rfl) rfl ?_ | refine op_v (v_pickb rfl rfl rfl) rfl ?_
          refine op_v (v_move rfl) rfl ?_
          first
            | (refine op_want rfl rfl ?_
               refine op_v (v_move rfl) rfl ?_)
            | (refine op_skip rfl rfl (by simp [undef]) rfl ?_)
          first
            | (refine op_want rfl rfl ?_
               first | refine op_v (v_cmpt rfl rfl rfl (by first | omega | (simp; done) | (simp; omega))) rfl ?_ | refine op_v (v_cmpf rfl rfl rfl (by first | omega | (simp; done) | (simp; omega))) rfl ?_ | refine op_v (v_cmp rfl rfl rfl) rfl ?_)
            | (refine op_skip rfl rfl (by simp [undef]) rfl ?_)
          first | refine op_v (v_pickt rfl rfl) rfl ?_ | refine op_v (v_pickf rfl rfl) rfl ?_ | refine op_v (v_pickb rfl rfl rfl) rfl ?_
          refine op_v (v_move rfl) rfl ?_
          first
            | (refine op_want rfl rfl ?_
               refine op_v (v_move rfl) rfl ?_)
            | (refine op_skip rfl rfl (by simp [undef]) rfl ?_)
          first | refine op_v (v_pickt rfl rfl) rfl ?_ | refine op_v (v_pickf rfl rfl) rfl ?_ | refine op_v (v_pickb rfl rfl rfl) rfl ?_
          refine op_v (v_move rfl) rfl ?_
          first
            | (refine op_want rfl rfl ?_
               refine op_call pl62 rfl rfl (toy_does) Parts.none ?_
               rintro v45 I45 _ hI45 ⟨hg45, rfl⟩)
            | (refine op_skip rfl rfl (by simp [undef]) rfl ?_)
          first
            | (refine op_want rfl rfl ?_
               refine op_call pl53 rfl rfl ((Fun_does (by unfold InR; omega) (RepS.nil _))) Parts.none ?_
               rintro v46 I46 _ hI46 ⟨hv46, rfl⟩
               obtain ⟨a46, c46, rfl, _⟩ := hv46.shape)
            | (refine op_skip rfl rfl (by simp [undef]) rfl ?_)
          first
            | (refine op_want rfl rfl ?_
               refine o_buildSlice (xs := [(Go.Operand.tmp 46)]) Try.underlying22 bs24 rfl rfl rfl rfl rfl (fun b47 => ?_)
               refine OpsJ.freezeRow Del.here ?_
               rintro I47 a47 c47 hI47 hq hc47 hl47 hcells47
               cases hq)
            | (refine op_skip rfl rfl (by simp [undef]) rfl ?_)
          first
            | (refine op_want rfl rfl ?_
               refine op_call pl53 rfl rfl ((Fun_does (by unfold InR; omega) (RowT.repS rfl hcells47 (RowT.one (hv46.mono hI47)) hc47 (by omega)))) Parts.none ?_
               rintro v48 I48 _ hI48 ⟨hv48, rfl⟩
               change RepT I48 _ tD at hv48)
            | (refine op_skip rfl rfl (by simp [undef]) rfl ?_)
          first
            | (refine op_want rfl rfl ?_
               refine op_call pl63 rfl rfl ((GTerm_does (hg45.mono (by repeat (first | exact Imm.le_refl _ | assumption | refine Imm.le_trans ?_ (by assumption)))) hv48 (by omega))) Parts.none ?_
               rintro v49 I49 _ hI49 ⟨rfl, rfl⟩
               rw [toy_D])
            | (refine op_skip rfl rfl (by simp [undef]) rfl ?_)
          first
            | (refine op_want rfl rfl ?_
               first | refine op_v (v_cmpt rfl rfl rfl (by first | omega | (simp; done) | (simp; omega))) rfl ?_ | refine op_v (v_cmpf rfl rfl rfl (by first | omega | (simp; done) | (simp; omega))) rfl ?_ | refine op_v (v_cmp rfl rfl rfl) rfl ?_)
            | (refine op_skip rfl rfl (by simp [undef]) rfl ?_)
          first | refine op_v (v_pickt rfl rfl) rfl ?_ | refine op_v (v_pickf rfl rfl) rfl ?_ | refine op_v (v_pickb rfl rfl rfl) rfl ?_
          refine op_v (v_assign rfl) rfl ?_
          refine ops_nil ?_
          refine post_next ?_
          refine code_ret ?_
          refine post_ret (rs := [.tmp 0]) rfl (List.Perm.refl _) (.cons (.tmp rfl) .nil) (List.nil_sublist _) ?_
          exact ⟨rfl, rfl⟩
        · refine o_alloc z24 rfl rfl (fun b2 => ?_)
          refine ops_nil ?_
          refine e_next rfl (side_nil (by kernel_rfl)) ?_
          refine e_eff rfl (by intro cs b hc; cases hc) (by intro c hc; cases hc) ?_
          refine op_call pl53 rfl rfl ((Fun_does (by unfold InR; omega) (RowT.repS rfl hcells12 ((RowT.one (hv7.mono (by repeat (first | exact Imm.le_refl _ | assumption | refine Imm.le_trans ?_ (by assumption))))).app (RowT.one (hv11.mono hI12))) hc12 (by omega)))) Parts.none ?_
          rintro v13 I13 _ hI13 ⟨hv13, rfl⟩
          change RepT I13 _ tC at hv13
          obtain ⟨a13, c13, rfl, _⟩ := hv13.shape
          refine ops_nil ?_
          refine e_next rfl (side_nil (by kernel_rfl)) ?_
          refine e_eff rfl (by intro cs b hc; cases hc) (by intro c hc; cases hc) ?_
          refine o_store ty24 rfl rfl rfl rfl rfl (by first | exact Swap.here | exact Swap.there Swap.here | exact Swap.there (Swap.there Swap.here) | exact Swap.there (Swap.there (Swap.there Swap.here)) | exact Swap.there (Swap.there (Swap.there (Swap.there Swap.here))) | exact Swap.there (Swap.there (Swap.there (Swap.there (Swap.there Swap.here))))) rfl ?_
          refine ops_nil ?_
          refine e_next_ (side_nil (by kernel_rfl)) ?_
          refine e_done ?_
          refine post_next ?_
          refine code_seq ?_
          refine code_draw (.fl 1 (.ef 0 (.ef 2 (.fl 3 (.fl 4 (.fl 5 (.ef 6 (.ef 7 .done)))))))) (fun _ => _) mixed (by kernel_rfl) (by kernel_rfl) (fun _ => (List.Sublist.refl _)) ?_
          refine e_float rfl rfl (fun hs_ => PF.mk rfl (v_load ty24 rfl (by first | exact Has.here | exact Has.there Has.here | exact Has.there (Has.there Has.here) | exact Has.there (Has.there (Has.there Has.here)) | exact Has.there (Has.there (Has.there (Has.there Has.here))) | exact Has.there (Has.there (Has.there (Has.there (Has.there Has.here)))) | exact Has.there (Has.there (Has.there (Has.there (Has.there (Has.there Has.here)))))) rfl) hs_) (by repeat (first | exact Imm.le_refl _ | assumption | refine Imm.le_trans ?_ (by assumption))) (by intro x hx; first | exact hx | exact List.mem_cons_of_mem _ hx | exact List.mem_append_right _ hx | (simp only [List.mem_cons, List.not_mem_nil, or_false] at hx; repeat' (first | (subst hx; simp [cellsL]; done) | rcases hx with hx | hx)) | simp_all) ?_
          refine e_eff rfl (by intro cs b hc; cases hc) (by intro c hc; cases hc) ?_
          refine op_call pl62 rfl rfl (toy_does) Parts.none ?_
          rintro v15 I15 _ hI15 ⟨hg15, rfl⟩
          refine ops_nil ?_
          refine e_next rfl (side_all (by repeat (first | exact Imm.le_refl _ | assumption | refine Imm.le_trans ?_ (by assumption))) (fun _ => (by intro x hx; first | exact hx | exact List.mem_cons_of_mem _ hx | exact List.mem_append_right _ hx | (simp only [List.mem_cons, List.not_mem_nil, or_false] at hx; repeat' (first | (subst hx; simp [cellsL]; done) | rcases hx with hx | hx)) | simp_all))) ?_
          refine e_eff rfl (by intro cs b hc; cases hc) (by intro c hc; cases hc) ?_
          refine op_call pl44 rfl rfl ((GWeight_does hg15 (hv13.mono (by repeat (first | exact Imm.le_refl _ | assumption | refine Imm.le_trans ?_ (by assumption)))) (by omega))) Parts.none ?_
          rintro v17 I17 _ hI17 ⟨rfl, rfl⟩
          rw [toy_C, if_pos rfl, toy_Cw]
          refine ops_nil ?_
          refine e_next rfl (side_nil (by kernel_rfl)) ?_
          refine e_float rfl rfl (fun hs_ => PF.mk rfl (v_move rfl) hs_) (by repeat (first | exact Imm.le_refl _ | assumption | refine Imm.le_trans ?_ (by assumption))) (by intro x hx; first | exact hx | exact List.mem_cons_of_mem _ hx | exact List.mem_append_right _ hx | (simp only [List.mem_cons, List.not_mem_nil, or_false] at hx; repeat' (first | (subst hx; simp [cellsL]; done) | rcases hx with hx | hx)) | simp_all) ?_
          refine e_float rfl rfl (fun hs_ => PF.mk rfl (v_extract rfl rfl) hs_) (by repeat (first | exact Imm.le_refl _ | assumption | refine Imm.le_trans ?_ (by assumption))) (by intro x hx; first | exact hx | exact List.mem_cons_of_mem _ hx | exact List.mem_append_right _ hx | (simp only [List.mem_cons, List.not_mem_nil, or_false] at hx; repeat' (first | (subst hx; simp [cellsL]; done) | rcases hx with hx | hx)) | simp_all) ?_
          refine e_float rfl rfl (fun hs_ => PF.mk rfl (v_extract rfl rfl) hs_) (by repeat (first | exact Imm.le_refl _ | assumption | refine Imm.le_trans ?_ (by assumption))) (by intro x hx; first | exact hx | exact List.mem_cons_of_mem _ hx | exact List.mem_append_right _ hx | (simp only [List.mem_cons, List.not_mem_nil, or_false] at hx; repeat' (first | (subst hx; simp [cellsL]; done) | rcases hx with hx | hx)) | simp_all) ?_
          refine e_eff rfl (by intro cs b hc; cases hc) (by intro c hc; cases hc) ?_
          refine op_v (v_assign rfl) rfl ?_
          refine ops_nil ?_
          refine e_next rfl (side_all (by repeat (first | exact Imm.le_refl _ | assumption | refine Imm.le_trans ?_ (by assumption))) (fun _ => (by intro x hx; first | exact hx | exact List.mem_cons_of_mem _ hx | exact List.mem_append_right _ hx | (simp only [List.mem_cons, List.not_mem_nil, or_false] at hx; repeat' (first | (subst hx; simp [cellsL]; done) | rcases hx with hx | hx)) | simp_all))) ?_
          refine e_eff rfl (by intro cs b hc; cases hc) (by intro c hc; cases hc) ?_
          refine op_v (v_assign rfl) rfl ?_
          refine ops_nil ?_
          refine e_next rfl (side_nil (by kernel_rfl)) ?_
          refine e_done ?_
          refine post_next ?_
          refine code_seq ?_
          refine code_region ?_
          refine op_call pl62 rfl rfl (toy_does) Parts.none ?_
          rintro v21 I21 _ hI21 ⟨hg21, rfl⟩
          refine op_call pl37 rfl rfl ((Find_does hg21)) Parts.none ?_
          rintro v22 I22 _ hI22 ⟨rfl, rfl⟩
          rw [toy_find]
          refine op_v (v_move rfl) rfl ?_
          refine op_v (v_extract rfl rfl) rfl ?_
          refine op_v (v_extract rfl rfl) rfl ?_
          refine op_v (v_assign rfl) rfl ?_
          refine op_v (v_assign rfl) rfl ?_
          refine ops_nil ?_
          refine post_next ?_
          refine code_seq ?_
          refine code_region ?_
          refine op_v (v_move rfl) rfl ?_
          first | refine op_v (v_cmpt rfl rfl rfl (by first | omega | (simp; done) | (simp; omega))) rfl ?_ | refine op_v (v_cmpf rfl rfl rfl (by first | omega | (simp; done) | (simp; omega))) rfl ?_ | refine op_v (v_cmp rfl rfl rfl) rfl ?_
          refine op_v (v_move rfl) rfl ?_
          first
            | (refine op_want rfl rfl ?_
               refine op_v (v_move rfl) rfl ?_)
            | (refine op_skip rfl rfl (by simp [undef]) rfl ?_)
          first
            | (refine op_want rfl rfl ?_
               first | refine op_v (v_cmpt rfl rfl rfl (by first | omega | (simp; done) | (simp; omega))) rfl ?_ | refine op_v (v_cmpf rfl rfl rfl (by first | omega | (simp; done) | (simp; omega))) rfl ?_ | refine op_v (v_cmp rfl rfl rfl) rfl ?_)
            | (refine op_skip rfl rfl (by simp [undef]) rfl ?_)
          first | refine op_v (v_pickt rfl rfl) rfl ?_ | refine op_v (v_pickf rfl rfl) rfl ?_ | refine op_v (v_pickb rfl rfl rfl) rfl ?_
          refine op_v (v_move rfl) rfl ?_
          first
            | (refine op_want rfl rfl ?_
               refine op_v (v_load ty24 rfl (by first | exact Has.here | exact Has.there Has.here | exact Has.there (Has.there Has.here) | exact Has.there (Has.there (Has.there Has.here)) | exact Has.there (Has.there (Has.there (Has.there Has.here))) | exact Has.there (Has.there (Has.there (Has.there (Has.there Has.here)))) | exact Has.there (Has.there (Has.there (Has.there (Has.there (Has.there Has.here)))))) rfl) rfl ?_)
            | (refine op_skip rfl rfl (by simp [undef]) rfl ?_)
          first
            | (refine op_want rfl rfl ?_
               refine op_call pl48 rfl rfl ((Counts_does (hv13.mono (by repeat (first | exact Imm.le_refl _ | assumption | refine Imm.le_trans ?_ (by assumption)))) (by omega))) Parts.none ?_
               rintro v33 I33 _ hI33 ⟨⟨cs33, hcs33, hC33⟩, rfl⟩
               obtain rfl := toy_counts hC33)
            | (refine op_skip rfl rfl (by simp [undef]) rfl ?_)
          first
            | (refine op_want rfl rfl ?_
               refine o_buildSlice (xs := [(Go.Operand.const (Go.Value.int Go.IntKind.i64 2))]) Try.underlying25 bs3 rfl rfl rfl rfl rfl (fun b34 => ?_)
               refine OpsJ.freezeRow Del.here ?_
               rintro I34 a34 c34 hI34 hq hc34 hl34 hcells34
               cases hq)
            | (refine op_skip rfl rfl (by simp [undef]) rfl ?_)
          first
            | (refine op_want rfl rfl ?_
               refine op_call pl31 rfl rfl ((Ints_does _ (hcs33.mono hI34) (RInts.lit (xs := [2]) hcells34 hc34 rfl))) Parts.none ?_
               rintro v35 I35 _ hI35 ⟨rfl, rfl⟩
               rw [show decide (([2] : List Int) = [2]) = true by decide])
            | (refine op_skip rfl rfl (by simp [undef]) rfl ?_)
          first | refine op_v (v_pickt rfl rfl) rfl ?_ | refine op_v (v_pickf rfl rfl) rfl ?_ | refine op_v (v_pickb rfl rfl rfl) rfl ?_
          refine op_v (v_move rfl) rfl ?_
          first
            | (refine op_want rfl rfl ?_
               refine op_v (v_move rfl) rfl ?_)
            | (refine op_skip rfl rfl (by simp [undef]) rfl ?_)
          first
            | (refine op_want rfl rfl ?_
               first | refine op_v (v_cmpt rfl rfl rfl (by first | omega | (simp; done) | (simp; omega))) rfl ?_ | refine op_v (v_cmpf rfl rfl rfl (by first | omega | (simp; done) | (simp; omega))) rfl ?_ | refine op_v (v_cmp rfl rfl rfl) rfl ?_)
            | (refine op_skip rfl rfl (by simp [undef]) rfl ?_)
          first | refine op_v (v_pickt rfl rfl) rfl ?_ | refine op_v (v_pickf rfl rfl) rfl ?_ | refine op_v (v_pickb rfl rfl rfl) rfl ?_
          refine op_v (v_move rfl) rfl ?_
          first
            | (refine op_want rfl rfl ?_
               refine op_v (v_move rfl) rfl ?_)
            | (refine op_skip rfl rfl (by simp [undef]) rfl ?_)
          first | refine op_v (v_pickt rfl rfl) rfl ?_ | refine op_v (v_pickf rfl rfl) rfl ?_ | refine op_v (v_pickb rfl rfl rfl) rfl ?_
          refine op_v (v_move rfl) rfl ?_
          first
            | (refine op_want rfl rfl ?_
               refine op_call pl62 rfl rfl (toy_does) Parts.none ?_
               rintro v45 I45 _ hI45 ⟨hg45, rfl⟩)
            | (refine op_skip rfl rfl (by simp [undef]) rfl ?_)
          first
            | (refine op_want rfl rfl ?_
               refine op_call pl53 rfl rfl ((Fun_does (by unfold InR; omega) (RepS.nil _))) Parts.none ?_
               rintro v46 I46 _ hI46 ⟨hv46, rfl⟩
               obtain ⟨a46, c46, rfl, _⟩ := hv46.shape)
            | (refine op_skip rfl rfl (by simp [undef]) rfl ?_)
          first
            | (refine op_want rfl rfl ?_
               refine o_buildSlice (xs := [(Go.Operand.tmp 46)]) Try.underlying22 bs24 rfl rfl rfl rfl rfl (fun b47 => ?_)
               refine OpsJ.freezeRow Del.here ?_
               rintro I47 a47 c47 hI47 hq hc47 hl47 hcells47
               cases hq)
            | (refine op_skip rfl rfl (by simp [undef]) rfl ?_)
          first
            | (refine op_want rfl rfl ?_
               refine op_call pl53 rfl rfl ((Fun_does (by unfold InR; omega) (RowT.repS rfl hcells47 (RowT.one (hv46.mono hI47)) hc47 (by omega)))) Parts.none ?_
               rintro v48 I48 _ hI48 ⟨hv48, rfl⟩
               change RepT I48 _ tD at hv48)
            | (refine op_skip rfl rfl (by simp [undef]) rfl ?_)
          first
            | (refine op_want rfl rfl ?_
               refine op_call pl63 rfl rfl ((GTerm_does (hg45.mono (by repeat (first | exact Imm.le_refl _ | assumption | refine Imm.le_trans ?_ (by assumption)))) hv48 (by omega))) Parts.none ?_
               rintro v49 I49 _ hI49 ⟨rfl, rfl⟩
               rw [toy_D])
            | (refine op_skip rfl rfl (by simp [undef]) rfl ?_)
          first
            | (refine op_want rfl rfl ?_
               first | refine op_v (v_cmpt rfl rfl rfl (by first | omega | (simp; done) | (simp; omega))) rfl ?_ | refine op_v (v_cmpf rfl rfl rfl (by first | omega | (simp; done) | (simp; omega))) rfl ?_ | refine op_v (v_cmp rfl rfl rfl) rfl ?_)
            | (refine op_skip rfl rfl (by simp [undef]) rfl ?_)
          first | refine op_v (v_pickt rfl rfl) rfl ?_ | refine op_v (v_pickf rfl rfl) rfl ?_ | refine op_v (v_pickb rfl rfl rfl) rfl ?_
          refine op_v (v_assign rfl) rfl ?_
          refine ops_nil ?_
          refine post_next ?_
          refine code_ret ?_
          refine post_ret (rs := [.tmp 0]) rfl (List.Perm.refl _) (.cons (.tmp rfl) .nil) (List.nil_sublist _) ?_
          exact ⟨rfl, rfl⟩
      · refine o_alloc z24 rfl rfl (fun b2 => ?_)
        refine ops_nil ?_
        refine e_next rfl (side_all (by repeat (first | exact Imm.le_refl _ | assumption | refine Imm.le_trans ?_ (by assumption))) (fun _ => (by intro x hx; first | exact hx | exact List.mem_cons_of_mem _ hx | exact List.mem_append_right _ hx | (simp only [List.mem_cons, List.not_mem_nil, or_false] at hx; repeat' (first | (subst hx; simp [cellsL]; done) | rcases hx with hx | hx)) | simp_all))) ?_
        refine e_eff rfl (by intro cs b hc; cases hc) (by intro c hc; cases hc) ?_
        refine o_buildSlice (xs := [(Go.Operand.tmp 8), (Go.Operand.tmp 11)]) Try.underlying22 bs24 rfl rfl rfl rfl rfl (fun b12 => ?_)
        refine OpsJ.freezeRow Del.here ?_
        rintro I12 a12 c12 hI12 hq hc12 hl12 hcells12
        cases hq
        refine ops_nil ?_
        refine e_next rfl (side_nil (by kernel_rfl)) ?_
        refine e_eff rfl (by intro cs b hc; cases hc) (by intro c hc; cases hc) ?_
        refine op_call pl53 rfl rfl ((Fun_does (by unfold InR; omega) (RowT.repS rfl hcells12 ((RowT.one (hv7.mono (by repeat (first | exact Imm.le_refl _ | assumption | refine Imm.le_trans ?_ (by assumption))))).app (RowT.one (hv11.mono hI12))) hc12 (by omega)))) Parts.none ?_
        rintro v13 I13 _ hI13 ⟨hv13, rfl⟩
        change RepT I13 _ tC at hv13
        obtain ⟨a13, c13, rfl, _⟩ := hv13.shape
        refine ops_nil ?_
        refine e_next rfl (side_nil (by kernel_rfl)) ?_
        refine e_eff rfl (by intro cs b hc; cases hc) (by intro c hc; cases hc) ?_
        refine o_store ty24 rfl rfl rfl rfl rfl (by first | exact Swap.here | exact Swap.there Swap.here | exact Swap.there (Swap.there Swap.here) | exact Swap.there (Swap.there (Swap.there Swap.here)) | exact Swap.there (Swap.there (Swap.there (Swap.there Swap.here))) | exact Swap.there (Swap.there (Swap.there (Swap.there (Swap.there Swap.here))))) rfl ?_
        refine ops_nil ?_
        refine e_next_ (side_nil (by kernel_rfl)) ?_
        refine e_done ?_
        refine post_next ?_
        refine code_seq ?_
        refine code_draw (.fl 1 (.ef 0 (.ef 2 (.fl 3 (.fl 4 (.fl 5 (.ef 6 (.ef 7 .done)))))))) (fun _ => _) mixed (by kernel_rfl) (by kernel_rfl) (fun _ => (List.Sublist.refl _)) ?_
        refine e_float rfl rfl (fun hs_ => PF.mk rfl (v_load ty24 rfl (by first | exact Has.here | exact Has.there Has.here | exact Has.there (Has.there Has.here) | exact Has.there (Has.there (Has.there Has.here)) | exact Has.there (Has.there (Has.there (Has.there Has.here))) | exact Has.there (Has.there (Has.there (Has.there (Has.there Has.here)))) | exact Has.there (Has.there (Has.there (Has.there (Has.there (Has.there Has.here)))))) rfl) hs_) (by repeat (first | exact Imm.le_refl _ | assumption | refine Imm.le_trans ?_ (by assumption))) (by intro x hx; first | exact hx | exact List.mem_cons_of_mem _ hx | exact List.mem_append_right _ hx | (simp only [List.mem_cons, List.not_mem_nil, or_false] at hx; repeat' (first | (subst hx; simp [cellsL]; done) | rcases hx with hx | hx)) | simp_all) ?_
        refine e_eff rfl (by intro cs b hc; cases hc) (by intro c hc; cases hc) ?_
        refine op_call pl62 rfl rfl (toy_does) Parts.none ?_
        rintro v15 I15 _ hI15 ⟨hg15, rfl⟩
        refine ops_nil ?_
        refine e_next rfl (side_all (by repeat (first | exact Imm.le_refl _ | assumption | refine Imm.le_trans ?_ (by assumption))) (fun _ => (by intro x hx; first | exact hx | exact List.mem_cons_of_mem _ hx | exact List.mem_append_right _ hx | (simp only [List.mem_cons, List.not_mem_nil, or_false] at hx; repeat' (first | (subst hx; simp [cellsL]; done) | rcases hx with hx | hx)) | simp_all))) ?_
        refine e_eff rfl (by intro cs b hc; cases hc) (by intro c hc; cases hc) ?_
        refine op_call pl44 rfl rfl ((GWeight_does hg15 (hv13.mono (by repeat (first | exact Imm.le_refl _ | assumption | refine Imm.le_trans ?_ (by assumption)))) (by omega))) Parts.none ?_
        rintro v17 I17 _ hI17 ⟨rfl, rfl⟩
        rw [toy_C, if_pos rfl, toy_Cw]
        refine ops_nil ?_
        refine e_next rfl (side_nil (by kernel_rfl)) ?_
        refine e_float rfl rfl (fun hs_ => PF.mk rfl (v_move rfl) hs_) (by repeat (first | exact Imm.le_refl _ | assumption | refine Imm.le_trans ?_ (by assumption))) (by intro x hx; first | exact hx | exact List.mem_cons_of_mem _ hx | exact List.mem_append_right _ hx | (simp only [List.mem_cons, List.not_mem_nil, or_false] at hx; repeat' (first | (subst hx; simp [cellsL]; done) | rcases hx with hx | hx)) | simp_all) ?_
        refine e_float rfl rfl (fun hs_ => PF.mk rfl (v_extract rfl rfl) hs_) (by repeat (first | exact Imm.le_refl _ | assumption | refine Imm.le_trans ?_ (by assumption))) (by intro x hx; first | exact hx | exact List.mem_cons_of_mem _ hx | exact List.mem_append_right _ hx | (simp only [List.mem_cons, List.not_mem_nil, or_false] at hx; repeat' (first | (subst hx; simp [cellsL]; done) | rcases hx with hx | hx)) | simp_all) ?_
        refine e_float rfl rfl (fun hs_ => PF.mk rfl (v_extract rfl rfl) hs_) (by repeat (first | exact Imm.le_refl _ | assumption | refine Imm.le_trans ?_ (by assumption))) (by intro x hx; first | exact hx | exact List.mem_cons_of_mem _ hx | exact List.mem_append_right _ hx | (simp only [List.mem_cons, List.not_mem_nil, or_false] at hx; repeat' (first | (subst hx; simp [cellsL]; done) | rcases hx with hx | hx)) | simp_all) ?_
        refine e_eff rfl (by intro cs b hc; cases hc) (by intro c hc; cases hc) ?_
        refine op_v (v_assign rfl) rfl ?_
        refine ops_nil ?_
        refine e_next rfl (side_all (by repeat (first | exact Imm.le_refl _ | assumption | refine Imm.le_trans ?_ (by assumption))) (fun _ => (by intro x hx; first | exact hx | exact List.mem_cons_of_mem _ hx | exact List.mem_append_right _ hx | (simp only [List.mem_cons, List.not_mem_nil, or_false] at hx; repeat' (first | (subst hx; simp [cellsL]; done) | rcases hx with hx | hx)) | simp_all))) ?_
        refine e_eff rfl (by intro cs b hc; cases hc) (by intro c hc; cases hc) ?_
        refine op_v (v_assign rfl) rfl ?_
        refine ops_nil ?_
        refine e_next rfl (side_nil (by kernel_rfl)) ?_
        refine e_done ?_
        refine post_next ?_
        refine code_seq ?_
        refine code_region ?_
        refine op_call pl62 rfl rfl (toy_does) Parts.none ?_
        rintro v21 I21 _ hI21 ⟨hg21, rfl⟩
        refine op_call pl37 rfl rfl ((Find_does hg21)) Parts.none ?_
        rintro v22 I22 _ hI22 ⟨rfl, rfl⟩
        rw [toy_find]
        refine op_v (v_move rfl) rfl ?_
        refine op_v (v_extract rfl rfl) rfl ?_
        refine op_v (v_extract rfl rfl) rfl ?_
        refine op_v (v_assign rfl) rfl ?_
        refine op_v (v_assign rfl) rfl ?_
        refine ops_nil ?_
        refine post_next ?_
        refine code_seq ?_
        refine code_region ?_
        refine op_v (v_move rfl) rfl ?_
        first | refine op_v (v_cmpt rfl rfl rfl (by first | omega | (simp; done) | (simp; omega))) rfl ?_ | refine op_v (v_cmpf rfl rfl rfl (by first | omega | (simp; done) | (simp; omega))) rfl ?_ | refine op_v (v_cmp rfl rfl rfl) rfl ?_
        refine op_v (v_move rfl) rfl ?_
        first
          | (refine op_want rfl rfl ?_
             refine op_v (v_move rfl) rfl ?_)
          | (refine op_skip rfl rfl (by simp [undef]) rfl ?_)
        first
          | (refine op_want rfl rfl ?_
             first | refine op_v (v_cmpt rfl rfl rfl (by first | omega | (simp; done) | (simp; omega))) rfl ?_ | refine op_v (v_cmpf rfl rfl rfl (by first | omega | (simp; done) | (simp; omega))) rfl ?_ | refine op_v (v_cmp rfl rfl rfl) rfl ?_)
          | (refine op_skip rfl rfl (by simp [undef]) rfl ?_)
        first | refine op_v (v_pickt rfl rfl) rfl ?_ | refine op_v (v_pickf rfl rfl) rfl ?_ | refine op_v (v_pickb rfl rfl rfl) rfl ?_
        refine op_v (v_move rfl) rfl ?_
        first
          | (refine op_want rfl rfl ?_
             refine op_v (v_load ty24 rfl (by first | exact Has.here | exact Has.there Has.here | exact Has.there (Has.there Has.here) | exact Has.there (Has.there (Has.there Has.here)) | exact Has.there (Has.there (Has.there (Has.there Has.here))) | exact Has.there (Has.there (Has.there (Has.there (Has.there Has.here)))) | exact Has.there (Has.there (Has.there (Has.there (Has.there (Has.there Has.here)))))) rfl) rfl ?_)
          | (refine op_skip rfl rfl (by simp [undef]) rfl ?_)
        first
          | (refine op_want rfl rfl ?_
             refine op_call pl48 rfl rfl ((Counts_does (hv13.mono (by repeat (first | exact Imm.le_refl _ | assumption | refine Imm.le_trans ?_ (by assumption)))) (by omega))) Parts.none ?_
             rintro v33 I33 _ hI33 ⟨⟨cs33, hcs33, hC33⟩, rfl⟩
             obtain rfl := toy_counts hC33)
          | (refine op_skip rfl rfl (by simp [undef]) rfl ?_)
        first
          | (refine op_want rfl rfl ?_
             refine o_buildSlice (xs := [(Go.Operand.const (Go.Value.int Go.IntKind.i64 2))]) Try.underlying25 bs3 rfl rfl rfl rfl rfl (fun b34 => ?_)
             refine OpsJ.freezeRow Del.here ?_
             rintro I34 a34 c34 hI34 hq hc34 hl34 hcells34
             cases hq)
          | (refine op_skip rfl rfl (by simp [undef]) rfl ?_)
        first
          | (refine op_want rfl rfl ?_
             refine op_call pl31 rfl rfl ((Ints_does _ (hcs33.mono hI34) (RInts.lit (xs := [2]) hcells34 hc34 rfl))) Parts.none ?_
             rintro v35 I35 _ hI35 ⟨rfl, rfl⟩
             rw [show decide (([2] : List Int) = [2]) = true by decide])
          | (refine op_skip rfl rfl (by simp [undef]) rfl ?_)
        first | refine op_v (v_pickt rfl rfl) rfl ?_ | refine op_v (v_pickf rfl rfl) rfl ?_ | refine op_v (v_pickb rfl rfl rfl) rfl ?_
        refine op_v (v_move rfl) rfl ?_
        first
          | (refine op_want rfl rfl ?_
             refine op_v (v_move rfl) rfl ?_)
          | (refine op_skip rfl rfl (by simp [undef]) rfl ?_)
        first
          | (refine op_want rfl rfl ?_
             first | refine op_v (v_cmpt rfl rfl rfl (by first | omega | (simp; done) | (simp; omega))) rfl ?_ | refine op_v (v_cmpf rfl rfl rfl (by first | omega | (simp; done) | (simp; omega))) rfl ?_ | refine op_v (v_cmp rfl rfl rfl) rfl ?_)
          | (refine op_skip rfl rfl (by simp [undef]) rfl ?_)
        first | refine op_v (v_pickt rfl rfl) rfl ?_ | refine op_v (v_pickf rfl rfl) rfl ?_ | refine op_v (v_pickb rfl rfl rfl) rfl ?_
        refine op_v (v_move rfl) rfl ?_
        first
          | (refine op_want rfl rfl ?_
             refine op_v (v_move rfl) rfl ?_)
          | (refine op_skip rfl rfl (by simp [undef]) rfl ?_)
        first | refine op_v (v_pickt rfl rfl) rfl ?_ | refine op_v (v_pickf rfl rfl) rfl ?_ | refine op_v (v_pickb rfl rfl rfl) rfl ?_
        refine op_v (v_move rfl) rfl ?_
        first
          | (refine op_want rfl rfl ?_
             refine op_call pl62 rfl rfl (toy_does) Parts.none ?_
             rintro v45 I45 _ hI45 ⟨hg45, rfl⟩)
          | (refine op_skip rfl rfl (by simp [undef]) rfl ?_)
        first
          | (refine op_want rfl rfl ?_
             refine op_call pl53 rfl rfl ((Fun_does (by unfold InR; omega) (RepS.nil _))) Parts.none ?_
             rintro v46 I46 _ hI46 ⟨hv46, rfl⟩
             obtain ⟨a46, c46, rfl, _⟩ := hv46.shape)
          | (refine op_skip rfl rfl (by simp [undef]) rfl ?_)
        first
          | (refine op_want rfl rfl ?_
             refine o_buildSlice (xs := [(Go.Operand.tmp 46)]) Try.underlying22 bs24 rfl rfl rfl rfl rfl (fun b47 => ?_)
             refine OpsJ.freezeRow Del.here ?_
             rintro I47 a47 c47 hI47 hq hc47 hl47 hcells47
             cases hq)
          | (refine op_skip rfl rfl (by simp [undef]) rfl ?_)
        first
          | (refine op_want rfl rfl ?_
             refine op_call pl53 rfl rfl ((Fun_does (by unfold InR; omega) (RowT.repS rfl hcells47 (RowT.one (hv46.mono hI47)) hc47 (by omega)))) Parts.none ?_
             rintro v48 I48 _ hI48 ⟨hv48, rfl⟩
             change RepT I48 _ tD at hv48)
          | (refine op_skip rfl rfl (by simp [undef]) rfl ?_)
        first
          | (refine op_want rfl rfl ?_
             refine op_call pl63 rfl rfl ((GTerm_does (hg45.mono (by repeat (first | exact Imm.le_refl _ | assumption | refine Imm.le_trans ?_ (by assumption)))) hv48 (by omega))) Parts.none ?_
             rintro v49 I49 _ hI49 ⟨rfl, rfl⟩
             rw [toy_D])
          | (refine op_skip rfl rfl (by simp [undef]) rfl ?_)
        first
          | (refine op_want rfl rfl ?_
             first | refine op_v (v_cmpt rfl rfl rfl (by first | omega | (simp; done) | (simp; omega))) rfl ?_ | refine op_v (v_cmpf rfl rfl rfl (by first | omega | (simp; done) | (simp; omega))) rfl ?_ | refine op_v (v_cmp rfl rfl rfl) rfl ?_)
          | (refine op_skip rfl rfl (by simp [undef]) rfl ?_)
        first | refine op_v (v_pickt rfl rfl) rfl ?_ | refine op_v (v_pickf rfl rfl) rfl ?_ | refine op_v (v_pickb rfl rfl rfl) rfl ?_
        refine op_v (v_assign rfl) rfl ?_
        refine ops_nil ?_
        refine post_next ?_
        refine code_ret ?_
        refine post_ret (rs := [.tmp 0]) rfl (List.Perm.refl _) (.cons (.tmp rfl) .nil) (List.nil_sublist _) ?_
        exact ⟨rfl, rfl⟩
    · refine o_alloc z24 rfl rfl (fun b2 => ?_)
      refine ops_nil ?_
      refine e_next rfl (side_all (by repeat (first | exact Imm.le_refl _ | assumption | refine Imm.le_trans ?_ (by assumption))) (fun _ => (by intro x hx; first | exact hx | exact List.mem_cons_of_mem _ hx | exact List.mem_append_right _ hx | (simp only [List.mem_cons, List.not_mem_nil, or_false] at hx; repeat' (first | (subst hx; simp [cellsL]; done) | rcases hx with hx | hx)) | simp_all))) ?_
      refine e_eff rfl (by intro cs b hc; cases hc) (by intro c hc; cases hc) ?_
      refine op_call pl53 rfl rfl ((Fun_does (by unfold InR; omega) (RowT.repS rfl hcells10 (RowT.one (hv7.mono hI10)) hc10 (by omega)))) Parts.none ?_
      rintro v11 I11 _ hI11 ⟨hv11, rfl⟩
      obtain ⟨a11, c11, rfl, _⟩ := hv11.shape
      refine ops_nil ?_
      refine e_next rfl (side_all (by repeat (first | exact Imm.le_refl _ | assumption | refine Imm.le_trans ?_ (by assumption))) (fun _ => (by intro x hx; first | exact hx | exact List.mem_cons_of_mem _ hx | exact List.mem_append_right _ hx | (simp only [List.mem_cons, List.not_mem_nil, or_false] at hx; repeat' (first | (subst hx; simp [cellsL]; done) | rcases hx with hx | hx)) | simp_all))) ?_
      refine e_eff rfl (by intro cs b hc; cases hc) (by intro c hc; cases hc) ?_
      refine o_buildSlice (xs := [(Go.Operand.tmp 8), (Go.Operand.tmp 11)]) Try.underlying22 bs24 rfl rfl rfl rfl rfl (fun b12 => ?_)
      refine OpsJ.freezeRow Del.here ?_
      rintro I12 a12 c12 hI12 hq hc12 hl12 hcells12
      cases hq
      refine ops_nil ?_
      refine e_next rfl (side_nil (by kernel_rfl)) ?_
      refine e_eff rfl (by intro cs b hc; cases hc) (by intro c hc; cases hc) ?_
      refine op_call pl53 rfl rfl ((Fun_does (by unfold InR; omega) (RowT.repS rfl hcells12 ((RowT.one (hv7.mono (by repeat (first | exact Imm.le_refl _ | assumption | refine Imm.le_trans ?_ (by assumption))))).app (RowT.one (hv11.mono hI12))) hc12 (by omega)))) Parts.none ?_
      rintro v13 I13 _ hI13 ⟨hv13, rfl⟩
      change RepT I13 _ tC at hv13
      obtain ⟨a13, c13, rfl, _⟩ := hv13.shape
      refine ops_nil ?_
      refine e_next rfl (side_nil (by kernel_rfl)) ?_
      refine e_eff rfl (by intro cs b hc; cases hc) (by intro c hc; cases hc) ?_
      refine o_store ty24 rfl rfl rfl rfl rfl (by first | exact Swap.here | exact Swap.there Swap.here | exact Swap.there (Swap.there Swap.here) | exact Swap.there (Swap.there (Swap.there Swap.here)) | exact Swap.there (Swap.there (Swap.there (Swap.there Swap.here))) | exact Swap.there (Swap.there (Swap.there (Swap.there (Swap.there Swap.here))))) rfl ?_
      refine ops_nil ?_
      refine e_next_ (side_nil (by kernel_rfl)) ?_
      refine e_done ?_
      refine post_next ?_
      refine code_seq ?_
      refine code_draw (.fl 1 (.ef 0 (.ef 2 (.fl 3 (.fl 4 (.fl 5 (.ef 6 (.ef 7 .done)))))))) (fun _ => _) mixed (by kernel_rfl) (by kernel_rfl) (fun _ => (List.Sublist.refl _)) ?_
      refine e_float rfl rfl (fun hs_ => PF.mk rfl (v_load ty24 rfl (by first | exact Has.here | exact Has.there Has.here | exact Has.there (Has.there Has.here) | exact Has.there (Has.there (Has.there Has.here)) | exact Has.there (Has.there (Has.there (Has.there Has.here))) | exact Has.there (Has.there (Has.there (Has.there (Has.there Has.here)))) | exact Has.there (Has.there (Has.there (Has.there (Has.there (Has.there Has.here)))))) rfl) hs_) (by repeat (first | exact Imm.le_refl _ | assumption | refine Imm.le_trans ?_ (by assumption))) (by intro x hx; first | exact hx | exact List.mem_cons_of_mem _ hx | exact List.mem_append_right _ hx | (simp only [List.mem_cons, List.not_mem_nil, or_false] at hx; repeat' (first | (subst hx; simp [cellsL]; done) | rcases hx with hx | hx)) | simp_all) ?_
      refine e_eff rfl (by intro cs b hc; cases hc) (by intro c hc; cases hc) ?_
      refine op_call pl62 rfl rfl (toy_does) Parts.none ?_
      rintro v15 I15 _ hI15 ⟨hg15, rfl⟩
      refine ops_nil ?_
      refine e_next rfl (side_all (by repeat (first | exact Imm.le_refl _ | assumption | refine Imm.le_trans ?_ (by assumption))) (fun _ => (by intro x hx; first | exact hx | exact List.mem_cons_of_mem _ hx | exact List.mem_append_right _ hx | (simp only [List.mem_cons, List.not_mem_nil, or_false] at hx; repeat' (first | (subst hx; simp [cellsL]; done) | rcases hx with hx | hx)) | simp_all))) ?_
      refine e_eff rfl (by intro cs b hc; cases hc) (by intro c hc; cases hc) ?_
      refine op_call pl44 rfl rfl ((GWeight_does hg15 (hv13.mono (by repeat (first | exact Imm.le_refl _ | assumption | refine Imm.le_trans ?_ (by assumption)))) (by omega))) Parts.none ?_
      rintro v17 I17 _ hI17 ⟨rfl, rfl⟩
      rw [toy_C, if_pos rfl, toy_Cw]
      refine ops_nil ?_
      refine e_next rfl (side_nil (by kernel_rfl)) ?_
      refine e_float rfl rfl (fun hs_ => PF.mk rfl (v_move rfl) hs_) (by repeat (first | exact Imm.le_refl _ | assumption | refine Imm.le_trans ?_ (by assumption))) (by intro x hx; first | exact hx | exact List.mem_cons_of_mem _ hx | exact List.mem_append_right _ hx | (simp only [List.mem_cons, List.not_mem_nil, or_false] at hx; repeat' (first | (subst hx; simp [cellsL]; done) | rcases hx with hx | hx)) | simp_all) ?_
      refine e_float rfl rfl (fun hs_ => PF.mk rfl (v_extract rfl rfl) hs_) (by repeat (first | exact Imm.le_refl _ | assumption | refine Imm.le_trans ?_ (by assumption))) (by intro x hx; first | exact hx | exact List.mem_cons_of_mem _ hx | exact List.mem_append_right _ hx | (simp only [List.mem_cons, List.not_mem_nil, or_false] at hx; repeat' (first | (subst hx; simp [cellsL]; done) | rcases hx with hx | hx)) | simp_all) ?_
      refine e_float rfl rfl (fun hs_ => PF.mk rfl (v_extract rfl rfl) hs_) (by repeat (first | exact Imm.le_refl _ | assumption | refine Imm.le_trans ?_ (by assumption))) (by intro x hx; first | exact hx | exact List.mem_cons_of_mem _ hx | exact List.mem_append_right _ hx | (simp only [List.mem_cons, List.not_mem_nil, or_false] at hx; repeat' (first | (subst hx; simp [cellsL]; done) | rcases hx with hx | hx)) | simp_all) ?_
      refine e_eff rfl (by intro cs b hc; cases hc) (by intro c hc; cases hc) ?_
      refine op_v (v_assign rfl) rfl ?_
      refine ops_nil ?_
      refine e_next rfl (side_all (by repeat (first | exact Imm.le_refl _ | assumption | refine Imm.le_trans ?_ (by assumption))) (fun _ => (by intro x hx; first | exact hx | exact List.mem_cons_of_mem _ hx | exact List.mem_append_right _ hx | (simp only [List.mem_cons, List.not_mem_nil, or_false] at hx; repeat' (first | (subst hx; simp [cellsL]; done) | rcases hx with hx | hx)) | simp_all))) ?_
      refine e_eff rfl (by intro cs b hc; cases hc) (by intro c hc; cases hc) ?_
      refine op_v (v_assign rfl) rfl ?_
      refine ops_nil ?_
      refine e_next rfl (side_nil (by kernel_rfl)) ?_
      refine e_done ?_
      refine post_next ?_
      refine code_seq ?_
      refine code_region ?_
      refine op_call pl62 rfl rfl (toy_does) Parts.none ?_
      rintro v21 I21 _ hI21 ⟨hg21, rfl⟩
      refine op_call pl37 rfl rfl ((Find_does hg21)) Parts.none ?_
      rintro v22 I22 _ hI22 ⟨rfl, rfl⟩
      rw [toy_find]
      refine op_v (v_move rfl) rfl ?_
      refine op_v (v_extract rfl rfl) rfl ?_
      refine op_v (v_extract rfl rfl) rfl ?_
      refine op_v (v_assign rfl) rfl ?_
      refine op_v (v_assign rfl) rfl ?_
      refine ops_nil ?_
      refine post_next ?_
      refine code_seq ?_
      refine code_region ?_
      refine op_v (v_move rfl) rfl ?_
      first | refine op_v (v_cmpt rfl rfl rfl (by first | omega | (simp; done) | (simp; omega))) rfl ?_ | refine op_v (v_cmpf rfl rfl rfl (by first | omega | (simp; done) | (simp; omega))) rfl ?_ | refine op_v (v_cmp rfl rfl rfl) rfl ?_
      refine op_v (v_move rfl) rfl ?_
      first
        | (refine op_want rfl rfl ?_
           refine op_v (v_move rfl) rfl ?_)
        | (refine op_skip rfl rfl (by simp [undef]) rfl ?_)
      first
        | (refine op_want rfl rfl ?_
           first | refine op_v (v_cmpt rfl rfl rfl (by first | omega | (simp; done) | (simp; omega))) rfl ?_ | refine op_v (v_cmpf rfl rfl rfl (by first | omega | (simp; done) | (simp; omega))) rfl ?_ | refine op_v (v_cmp rfl rfl rfl) rfl ?_)
        | (refine op_skip rfl rfl (by simp [undef]) rfl ?_)
      first | refine op_v (v_pickt rfl rfl) rfl ?_ | refine op_v (v_pickf rfl rfl) rfl ?_ | refine op_v (v_pickb rfl rfl rfl) rfl ?_
      refine op_v (v_move rfl) rfl ?_
      first
        | (refine op_want rfl rfl ?_
           refine op_v (v_load ty24 rfl (by first | exact Has.here | exact Has.there Has.here | exact Has.there (Has.there Has.here) | exact Has.there (Has.there (Has.there Has.here)) | exact Has.there (Has.there (Has.there (Has.there Has.here))) | exact Has.there (Has.there (Has.there (Has.there (Has.there Has.here)))) | exact Has.there (Has.there (Has.there (Has.there (Has.there (Has.there Has.here)))))) rfl) rfl ?_)
        | (refine op_skip rfl rfl (by simp [undef]) rfl ?_)
      first
        | (refine op_want rfl rfl ?_
           refine op_call pl48 rfl rfl ((Counts_does (hv13.mono (by repeat (first | exact Imm.le_refl _ | assumption | refine Imm.le_trans ?_ (by assumption)))) (by omega))) Parts.none ?_
           rintro v33 I33 _ hI33 ⟨⟨cs33, hcs33, hC33⟩, rfl⟩
           obtain rfl := toy_counts hC33)
        | (refine op_skip rfl rfl (by simp [undef]) rfl ?_)
      first
        | (refine op_want rfl rfl ?_
           refine o_buildSlice (xs := [(Go.Operand.const (Go.Value.int Go.IntKind.i64 2))]) Try.underlying25 bs3 rfl rfl rfl rfl rfl (fun b34 => ?_)
           refine OpsJ.freezeRow Del.here ?_
           rintro I34 a34 c34 hI34 hq hc34 hl34 hcells34
           cases hq)
        | (refine op_skip rfl rfl (by simp [undef]) rfl ?_)
      first
        | (refine op_want rfl rfl ?_
           refine op_call pl31 rfl rfl ((Ints_does _ (hcs33.mono hI34) (RInts.lit (xs := [2]) hcells34 hc34 rfl))) Parts.none ?_
           rintro v35 I35 _ hI35 ⟨rfl, rfl⟩
           rw [show decide (([2] : List Int) = [2]) = true by decide])
        | (refine op_skip rfl rfl (by simp [undef]) rfl ?_)
      first | refine op_v (v_pickt rfl rfl) rfl ?_ | refine op_v (v_pickf rfl rfl) rfl ?_ | refine op_v (v_pickb rfl rfl rfl) rfl ?_
      refine op_v (v_move rfl) rfl ?_
      first
        | (refine op_want rfl rfl ?_
           refine op_v (v_move rfl) rfl ?_)
        | (refine op_skip rfl rfl (by simp [undef]) rfl ?_)
      first
        | (refine op_want rfl rfl ?_
           first | refine op_v (v_cmpt rfl rfl rfl (by first | omega | (simp; done) | (simp; omega))) rfl ?_ | refine op_v (v_cmpf rfl rfl rfl (by first | omega | (simp; done) | (simp; omega))) rfl ?_ | refine op_v (v_cmp rfl rfl rfl) rfl ?_)
        | (refine op_skip rfl rfl (by simp [undef]) rfl ?_)
      first | refine op_v (v_pickt rfl rfl) rfl ?_ | refine op_v (v_pickf rfl rfl) rfl ?_ | refine op_v (v_pickb rfl rfl rfl) rfl ?_
      refine op_v (v_move rfl) rfl ?_
      first
        | (refine op_want rfl rfl ?_
           refine op_v (v_move rfl) rfl ?_)
        | (refine op_skip rfl rfl (by simp [undef]) rfl ?_)
      first | refine op_v (v_pickt rfl rfl) rfl ?_ | refine op_v (v_pickf rfl rfl) rfl ?_ | refine op_v (v_pickb rfl rfl rfl) rfl ?_
      refine op_v (v_move rfl) rfl ?_
      first
        | (refine op_want rfl rfl ?_
           refine op_call pl62 rfl rfl (toy_does) Parts.none ?_
           rintro v45 I45 _ hI45 ⟨hg45, rfl⟩)
        | (refine op_skip rfl rfl (by simp [undef]) rfl ?_)
      first
        | (refine op_want rfl rfl ?_
           refine op_call pl53 rfl rfl ((Fun_does (by unfold InR; omega) (RepS.nil _))) Parts.none ?_
           rintro v46 I46 _ hI46 ⟨hv46, rfl⟩
           obtain ⟨a46, c46, rfl, _⟩ := hv46.shape)
        | (refine op_skip rfl rfl (by simp [undef]) rfl ?_)
      first
        | (refine op_want rfl rfl ?_
           refine o_buildSlice (xs := [(Go.Operand.tmp 46)]) Try.underlying22 bs24 rfl rfl rfl rfl rfl (fun b47 => ?_)
           refine OpsJ.freezeRow Del.here ?_
           rintro I47 a47 c47 hI47 hq hc47 hl47 hcells47
           cases hq)
        | (refine op_skip rfl rfl (by simp [undef]) rfl ?_)
      first
        | (refine op_want rfl rfl ?_
           refine op_call pl53 rfl rfl ((Fun_does (by unfold InR; omega) (RowT.repS rfl hcells47 (RowT.one (hv46.mono hI47)) hc47 (by omega)))) Parts.none ?_
           rintro v48 I48 _ hI48 ⟨hv48, rfl⟩
           change RepT I48 _ tD at hv48)
        | (refine op_skip rfl rfl (by simp [undef]) rfl ?_)
      first
        | (refine op_want rfl rfl ?_
           refine op_call pl63 rfl rfl ((GTerm_does (hg45.mono (by repeat (first | exact Imm.le_refl _ | assumption | refine Imm.le_trans ?_ (by assumption)))) hv48 (by omega))) Parts.none ?_
           rintro v49 I49 _ hI49 ⟨rfl, rfl⟩
           rw [toy_D])
        | (refine op_skip rfl rfl (by simp [undef]) rfl ?_)
      first
        | (refine op_want rfl rfl ?_
           first | refine op_v (v_cmpt rfl rfl rfl (by first | omega | (simp; done) | (simp; omega))) rfl ?_ | refine op_v (v_cmpf rfl rfl rfl (by first | omega | (simp; done) | (simp; omega))) rfl ?_ | refine op_v (v_cmp rfl rfl rfl) rfl ?_)
        | (refine op_skip rfl rfl (by simp [undef]) rfl ?_)
      first | refine op_v (v_pickt rfl rfl) rfl ?_ | refine op_v (v_pickf rfl rfl) rfl ?_ | refine op_v (v_pickb rfl rfl rfl) rfl ?_
      refine op_v (v_assign rfl) rfl ?_
      refine ops_nil ?_
      refine post_next ?_
      refine code_ret ?_
      refine post_ret (rs := [.tmp 0]) rfl (List.Perm.refl _) (.cons (.tmp rfl) .nil) (List.nil_sublist _) ?_
      exact ⟨rfl, rfl⟩
  · refine o_alloc z24 rfl rfl (fun b2 => ?_)
    refine ops_nil ?_
    refine e_next rfl (side_all (by repeat (first | exact Imm.le_refl _ | assumption | refine Imm.le_trans ?_ (by assumption))) (fun _ => (by intro x hx; first | exact hx | exact List.mem_cons_of_mem _ hx | exact List.mem_append_right _ hx | (simp only [List.mem_cons, List.not_mem_nil, or_false] at hx; repeat' (first | (subst hx; simp [cellsL]; done) | rcases hx with hx | hx)) | simp_all))) ?_
    refine e_eff rfl (by intro cs b hc; cases hc) (by intro c hc; cases hc) ?_
    refine o_buildSlice (xs := [(Go.Operand.tmp 9)]) Try.underlying22 bs24 rfl rfl rfl rfl rfl (fun b10 => ?_)
    refine OpsJ.freezeRow Del.here ?_
    rintro I10 a10 c10 hI10 hq hc10 hl10 hcells10
    cases hq
    refine ops_nil ?_
    refine e_next rfl (side_all (by repeat (first | exact Imm.le_refl _ | assumption | refine Imm.le_trans ?_ (by assumption))) (fun _ => (by intro x hx; first | exact hx | exact List.mem_cons_of_mem _ hx | exact List.mem_append_right _ hx | (simp only [List.mem_cons, List.not_mem_nil, or_false] at hx; repeat' (first | (subst hx; simp [cellsL]; done) | rcases hx with hx | hx)) | simp_all))) ?_
    refine e_eff rfl (by intro cs b hc; cases hc) (by intro c hc; cases hc) ?_
    refine op_call pl53 rfl rfl ((Fun_does (by unfold InR; omega) (RowT.repS rfl hcells10 (RowT.one (hv7.mono hI10)) hc10 (by omega)))) Parts.none ?_
    rintro v11 I11 _ hI11 ⟨hv11, rfl⟩
    obtain ⟨a11, c11, rfl, _⟩ := hv11.shape
    refine ops_nil ?_
    refine e_next rfl (side_all (by repeat (first | exact Imm.le_refl _ | assumption | refine Imm.le_trans ?_ (by assumption))) (fun _ => (by intro x hx; first | exact hx | exact List.mem_cons_of_mem _ hx | exact List.mem_append_right _ hx | (simp only [List.mem_cons, List.not_mem_nil, or_false] at hx; repeat' (first | (subst hx; simp [cellsL]; done) | rcases hx with hx | hx)) | simp_all))) ?_
    refine e_eff rfl (by intro cs b hc; cases hc) (by intro c hc; cases hc) ?_
    refine o_buildSlice (xs := [(Go.Operand.tmp 8), (Go.Operand.tmp 11)]) Try.underlying22 bs24 rfl rfl rfl rfl rfl (fun b12 => ?_)
    refine OpsJ.freezeRow Del.here ?_
    rintro I12 a12 c12 hI12 hq hc12 hl12 hcells12
    cases hq
    refine ops_nil ?_
    refine e_next rfl (side_nil (by kernel_rfl)) ?_
    refine e_eff rfl (by intro cs b hc; cases hc) (by intro c hc; cases hc) ?_
    refine op_call pl53 rfl rfl ((Fun_does (by unfold InR; omega) (RowT.repS rfl hcells12 ((RowT.one (hv7.mono (by repeat (first | exact Imm.le_refl _ | assumption | refine Imm.le_trans ?_ (by assumption))))).app (RowT.one (hv11.mono hI12))) hc12 (by omega)))) Parts.none ?_
    rintro v13 I13 _ hI13 ⟨hv13, rfl⟩
    change RepT I13 _ tC at hv13
    obtain ⟨a13, c13, rfl, _⟩ := hv13.shape
    refine ops_nil ?_
    refine e_next rfl (side_nil (by kernel_rfl)) ?_
    refine e_eff rfl (by intro cs b hc; cases hc) (by intro c hc; cases hc) ?_
    refine o_store ty24 rfl rfl rfl rfl rfl (by first | exact Swap.here | exact Swap.there Swap.here | exact Swap.there (Swap.there Swap.here) | exact Swap.there (Swap.there (Swap.there Swap.here)) | exact Swap.there (Swap.there (Swap.there (Swap.there Swap.here))) | exact Swap.there (Swap.there (Swap.there (Swap.there (Swap.there Swap.here))))) rfl ?_
    refine ops_nil ?_
    refine e_next_ (side_nil (by kernel_rfl)) ?_
    refine e_done ?_
    refine post_next ?_
    refine code_seq ?_
    refine code_draw (.fl 1 (.ef 0 (.ef 2 (.fl 3 (.fl 4 (.fl 5 (.ef 6 (.ef 7 .done)))))))) (fun _ => _) mixed (by kernel_rfl) (by kernel_rfl) (fun _ => (List.Sublist.refl _)) ?_
    refine e_float rfl rfl (fun hs_ => PF.mk rfl (v_load ty24 rfl (by first | exact Has.here | exact Has.there Has.here | exact Has.there (Has.there Has.here) | exact Has.there (Has.there (Has.there Has.here)) | exact Has.there (Has.there (Has.there (Has.there Has.here))) | exact Has.there (Has.there (Has.there (Has.there (Has.there Has.here)))) | exact Has.there (Has.there (Has.there (Has.there (Has.there (Has.there Has.here)))))) rfl) hs_) (by repeat (first | exact Imm.le_refl _ | assumption | refine Imm.le_trans ?_ (by assumption))) (by intro x hx; first | exact hx | exact List.mem_cons_of_mem _ hx | exact List.mem_append_right _ hx | (simp only [List.mem_cons, List.not_mem_nil, or_false] at hx; repeat' (first | (subst hx; simp [cellsL]; done) | rcases hx with hx | hx)) | simp_all) ?_
    refine e_eff rfl (by intro cs b hc; cases hc) (by intro c hc; cases hc) ?_
    refine op_call pl62 rfl rfl (toy_does) Parts.none ?_
    rintro v15 I15 _ hI15 ⟨hg15, rfl⟩
    refine ops_nil ?_
    refine e_next rfl (side_all (by repeat (first | exact Imm.le_refl _ | assumption | refine Imm.le_trans ?_ (by assumption))) (fun _ => (by intro x hx; first | exact hx | exact List.mem_cons_of_mem _ hx | exact List.mem_append_right _ hx | (simp only [List.mem_cons, List.not_mem_nil, or_false] at hx; repeat' (first | (subst hx; simp [cellsL]; done) | rcases hx with hx | hx)) | simp_all))) ?_
    refine e_eff rfl (by intro cs b hc; cases hc) (by intro c hc; cases hc) ?_
    refine op_call pl44 rfl rfl ((GWeight_does hg15 (hv13.mono (by repeat (first | exact Imm.le_refl _ | assumption | refine Imm.le_trans ?_ (by assumption)))) (by omega))) Parts.none ?_
    rintro v17 I17 _ hI17 ⟨rfl, rfl⟩
    rw [toy_C, if_pos rfl, toy_Cw]
    refine ops_nil ?_
    refine e_next rfl (side_nil (by kernel_rfl)) ?_
    refine e_float rfl rfl (fun hs_ => PF.mk rfl (v_move rfl) hs_) (by repeat (first | exact Imm.le_refl _ | assumption | refine Imm.le_trans ?_ (by assumption))) (by intro x hx; first | exact hx | exact List.mem_cons_of_mem _ hx | exact List.mem_append_right _ hx | (simp only [List.mem_cons, List.not_mem_nil, or_false] at hx; repeat' (first | (subst hx; simp [cellsL]; done) | rcases hx with hx | hx)) | simp_all) ?_
    refine e_float rfl rfl (fun hs_ => PF.mk rfl (v_extract rfl rfl) hs_) (by repeat (first | exact Imm.le_refl _ | assumption | refine Imm.le_trans ?_ (by assumption))) (by intro x hx; first | exact hx | exact List.mem_cons_of_mem _ hx | exact List.mem_append_right _ hx | (simp only [List.mem_cons, List.not_mem_nil, or_false] at hx; repeat' (first | (subst hx; simp [cellsL]; done) | rcases hx with hx | hx)) | simp_all) ?_
    refine e_float rfl rfl (fun hs_ => PF.mk rfl (v_extract rfl rfl) hs_) (by repeat (first | exact Imm.le_refl _ | assumption | refine Imm.le_trans ?_ (by assumption))) (by intro x hx; first | exact hx | exact List.mem_cons_of_mem _ hx | exact List.mem_append_right _ hx | (simp only [List.mem_cons, List.not_mem_nil, or_false] at hx; repeat' (first | (subst hx; simp [cellsL]; done) | rcases hx with hx | hx)) | simp_all) ?_
    refine e_eff rfl (by intro cs b hc; cases hc) (by intro c hc; cases hc) ?_
    refine op_v (v_assign rfl) rfl ?_
    refine ops_nil ?_
    refine e_next rfl (side_all (by repeat (first | exact Imm.le_refl _ | assumption | refine Imm.le_trans ?_ (by assumption))) (fun _ => (by intro x hx; first | exact hx | exact List.mem_cons_of_mem _ hx | exact List.mem_append_right _ hx | (simp only [List.mem_cons, List.not_mem_nil, or_false] at hx; repeat' (first | (subst hx; simp [cellsL]; done) | rcases hx with hx | hx)) | simp_all))) ?_
    refine e_eff rfl (by intro cs b hc; cases hc) (by intro c hc; cases hc) ?_
    refine op_v (v_assign rfl) rfl ?_
    refine ops_nil ?_
    refine e_next rfl (side_nil (by kernel_rfl)) ?_
    refine e_done ?_
    refine post_next ?_
    refine code_seq ?_
    refine code_region ?_
    refine op_call pl62 rfl rfl (toy_does) Parts.none ?_
    rintro v21 I21 _ hI21 ⟨hg21, rfl⟩
    refine op_call pl37 rfl rfl ((Find_does hg21)) Parts.none ?_
    rintro v22 I22 _ hI22 ⟨rfl, rfl⟩
    rw [toy_find]
    refine op_v (v_move rfl) rfl ?_
    refine op_v (v_extract rfl rfl) rfl ?_
    refine op_v (v_extract rfl rfl) rfl ?_
    refine op_v (v_assign rfl) rfl ?_
    refine op_v (v_assign rfl) rfl ?_
    refine ops_nil ?_
    refine post_next ?_
    refine code_seq ?_
    refine code_region ?_
    refine op_v (v_move rfl) rfl ?_
    first | refine op_v (v_cmpt rfl rfl rfl (by first | omega | (simp; done) | (simp; omega))) rfl ?_ | refine op_v (v_cmpf rfl rfl rfl (by first | omega | (simp; done) | (simp; omega))) rfl ?_ | refine op_v (v_cmp rfl rfl rfl) rfl ?_
    refine op_v (v_move rfl) rfl ?_
    first
      | (refine op_want rfl rfl ?_
         refine op_v (v_move rfl) rfl ?_)
      | (refine op_skip rfl rfl (by simp [undef]) rfl ?_)
    first
      | (refine op_want rfl rfl ?_
         first | refine op_v (v_cmpt rfl rfl rfl (by first | omega | (simp; done) | (simp; omega))) rfl ?_ | refine op_v (v_cmpf rfl rfl rfl (by first | omega | (simp; done) | (simp; omega))) rfl ?_ | refine op_v (v_cmp rfl rfl rfl) rfl ?_)
      | (refine op_skip rfl rfl (by simp [undef]) rfl ?_)
    first | refine op_v (v_pickt rfl rfl) rfl ?_ | refine op_v (v_pickf rfl rfl) rfl ?_ | refine op_v (v_pickb rfl rfl rfl) rfl ?_
    refine op_v (v_move rfl) rfl ?_
    first
      | (refine op_want rfl rfl ?_
         refine op_v (v_load ty24 rfl (by first | exact Has.here | exact Has.there Has.here | exact Has.there (Has.there Has.here) | exact Has.there (Has.there (Has.there Has.here)) | exact Has.there (Has.there (Has.there (Has.there Has.here))) | exact Has.there (Has.there (Has.there (Has.there (Has.there Has.here)))) | exact Has.there (Has.there (Has.there (Has.there (Has.there (Has.there Has.here)))))) rfl) rfl ?_)
      | (refine op_skip rfl rfl (by simp [undef]) rfl ?_)
    first
      | (refine op_want rfl rfl ?_
         refine op_call pl48 rfl rfl ((Counts_does (hv13.mono (by repeat (first | exact Imm.le_refl _ | assumption | refine Imm.le_trans ?_ (by assumption)))) (by omega))) Parts.none ?_
         rintro v33 I33 _ hI33 ⟨⟨cs33, hcs33, hC33⟩, rfl⟩
         obtain rfl := toy_counts hC33)
      | (refine op_skip rfl rfl (by simp [undef]) rfl ?_)
    first
      | (refine op_want rfl rfl ?_
         refine o_buildSlice (xs := [(Go.Operand.const (Go.Value.int Go.IntKind.i64 2))]) Try.underlying25 bs3 rfl rfl rfl rfl rfl (fun b34 => ?_)
         refine OpsJ.freezeRow Del.here ?_
         rintro I34 a34 c34 hI34 hq hc34 hl34 hcells34
         cases hq)
      | (refine op_skip rfl rfl (by simp [undef]) rfl ?_)
    first
      | (refine op_want rfl rfl ?_
         refine op_call pl31 rfl rfl ((Ints_does _ (hcs33.mono hI34) (RInts.lit (xs := [2]) hcells34 hc34 rfl))) Parts.none ?_
         rintro v35 I35 _ hI35 ⟨rfl, rfl⟩
         rw [show decide (([2] : List Int) = [2]) = true by decide])
      | (refine op_skip rfl rfl (by simp [undef]) rfl ?_)
    first | refine op_v (v_pickt rfl rfl) rfl ?_ | refine op_v (v_pickf rfl rfl) rfl ?_ | refine op_v (v_pickb rfl rfl rfl) rfl ?_
    refine op_v (v_move rfl) rfl ?_
    first
      | (refine op_want rfl rfl ?_
         refine op_v (v_move rfl) rfl ?_)
      | (refine op_skip rfl rfl (by simp [undef]) rfl ?_)
    first
      | (refine op_want rfl rfl ?_
         first | refine op_v (v_cmpt rfl rfl rfl (by first | omega | (simp; done) | (simp; omega))) rfl ?_ | refine op_v (v_cmpf rfl rfl rfl (by first | omega | (simp; done) | (simp; omega))) rfl ?_ | refine op_v (v_cmp rfl rfl rfl) rfl ?_)
      | (refine op_skip rfl rfl (by simp [undef]) rfl ?_)
    first | refine op_v (v_pickt rfl rfl) rfl ?_ | refine op_v (v_pickf rfl rfl) rfl ?_ | refine op_v (v_pickb rfl rfl rfl) rfl ?_
    refine op_v (v_move rfl) rfl ?_
    first
      | (refine op_want rfl rfl ?_
         refine op_v (v_move rfl) rfl ?_)
      | (refine op_skip rfl rfl (by simp [undef]) rfl ?_)
    first | refine op_v (v_pickt rfl rfl) rfl ?_ | refine op_v (v_pickf rfl rfl) rfl ?_ | refine op_v (v_pickb rfl rfl rfl) rfl ?_
    refine op_v (v_move rfl) rfl ?_
    first
      | (refine op_want rfl rfl ?_
         refine op_call pl62 rfl rfl (toy_does) Parts.none ?_
         rintro v45 I45 _ hI45 ⟨hg45, rfl⟩)
      | (refine op_skip rfl rfl (by simp [undef]) rfl ?_)
    first
      | (refine op_want rfl rfl ?_
         refine op_call pl53 rfl rfl ((Fun_does (by unfold InR; omega) (RepS.nil _))) Parts.none ?_
         rintro v46 I46 _ hI46 ⟨hv46, rfl⟩
         obtain ⟨a46, c46, rfl, _⟩ := hv46.shape)
      | (refine op_skip rfl rfl (by simp [undef]) rfl ?_)
    first
      | (refine op_want rfl rfl ?_
         refine o_buildSlice (xs := [(Go.Operand.tmp 46)]) Try.underlying22 bs24 rfl rfl rfl rfl rfl (fun b47 => ?_)
         refine OpsJ.freezeRow Del.here ?_
         rintro I47 a47 c47 hI47 hq hc47 hl47 hcells47
         cases hq)
      | (refine op_skip rfl rfl (by simp [undef]) rfl ?_)
    first
      | (refine op_want rfl rfl ?_
         refine op_call pl53 rfl rfl ((Fun_does (by unfold InR; omega) (RowT.repS rfl hcells47 (RowT.one (hv46.mono hI47)) hc47 (by omega)))) Parts.none ?_
         rintro v48 I48 _ hI48 ⟨hv48, rfl⟩
         change RepT I48 _ tD at hv48)
      | (refine op_skip rfl rfl (by simp [undef]) rfl ?_)
    first
      | (refine op_want rfl rfl ?_
         refine op_call pl63 rfl rfl ((GTerm_does (hg45.mono (by repeat (first | exact Imm.le_refl _ | assumption | refine Imm.le_trans ?_ (by assumption)))) hv48 (by omega))) Parts.none ?_
         rintro v49 I49 _ hI49 ⟨rfl, rfl⟩
         rw [toy_D])
      | (refine op_skip rfl rfl (by simp [undef]) rfl ?_)
    first
      | (refine op_want rfl rfl ?_
         first | refine op_v (v_cmpt rfl rfl rfl (by first | omega | (simp; done) | (simp; omega))) rfl ?_ | refine op_v (v_cmpf rfl rfl rfl (by first | omega | (simp; done) | (simp; omega))) rfl ?_ | refine op_v (v_cmp rfl rfl rfl) rfl ?_)
      | (refine op_skip rfl rfl (by simp [undef]) rfl ?_)
    first | refine op_v (v_pickt rfl rfl) rfl ?_ | refine op_v (v_pickf rfl rfl) rfl ?_ | refine op_v (v_pickb rfl rfl rfl) rfl ?_
    refine op_v (v_assign rfl) rfl ?_
    refine ops_nil ?_
    refine post_next ?_
    refine code_ret ?_
    refine post_ret (rs := [.tmp 0]) rfl (List.Perm.refl _) (.cons (.tmp rfl) .nil) (List.nil_sublist _) ?_
    exact ⟨rfl, rfl⟩

theorem find_own {gs : List Sy} (h : rightG gs = true) (i : Nat) (hi : i < gs.length) : findN gs gs[i].name = i := by
  have := rightG_at h i hi
  simp only [badS, Bool.or_eq_false_iff] at this
  exact idxP_hit _ gs i hi this.2.2.1 (nmEq_self _)

theorem WeighNames_few {I : Imm} {vg : Value} {nm : ByteArray} {gs : List Sy} (hg : RepG I vg gs) (b1 b2 : Bool) (h1 : fewG gs = b1) (h2 : decide (200 < nm.size) = b2) (h3 : (b1 && !b2) = false) :
    Does Try.prog 8 [vg, .string nm] I [] (fun v I' δ' => v = .bool true ∧ δ' = []) := by
  refine Does.intro Try.func8 rfl Try.ntmps8 rfl fun w0 => ?_
  have hnm : decide (((200 : Int)) < (nm.size : Int)) = b2 := by rw [← h2]; exact decide_eq_decide.2 (by omega)
  cases b1 <;> cases b2 <;> first | (exfalso; revert h3; decide) | skip
  all_goals (
    refine code_seq ?_
    refine code_region ?_
    refine op_v (v_assign rfl) rfl ?_
    refine ops_nil ?_
    refine post_next ?_
    refine code_seq ?_
    refine code_seq ?_
    refine code_region ?_
    refine op_v (v_move rfl) rfl ?_
    refine op_call pl34 rfl rfl ((FewG_does hg)) Parts.none ?_
    rintro v12 I12 _ hI12 ⟨rfl, rfl⟩
    rw [h1]
    refine op_v (v_not rfl) rfl ?_
    refine op_v (v_move rfl) rfl ?_
    first
      | (refine op_want rfl rfl ?_
         refine op_v (v_move rfl) rfl ?_)
      | (refine op_skip rfl rfl (by simp [undef]) rfl ?_)
    first
      | (refine op_want rfl rfl ?_
         refine op_v (v_lens Try.underlying9 rfl) rfl ?_)
      | (refine op_skip rfl rfl (by simp [undef]) rfl ?_)
    first
      | (refine op_want rfl rfl ?_
         refine op_v (v_cmp (z := true) rfl rfl (by rw [← hnm]; rfl)) rfl ?_)
      | (refine op_skip rfl rfl (by simp [undef]) rfl ?_)
    first | refine op_v (v_pickt rfl rfl) rfl ?_ | refine op_v (v_pickf rfl rfl) rfl ?_ | refine op_v (v_pickb rfl rfl rfl) rfl ?_
    refine ops_nil ?_
    refine post_next ?_
    refine code_cond_t rfl ?_
    refine code_seq ?_
    refine code_region ?_
    refine op_v (v_assign rfl) rfl ?_
    refine ops_nil ?_
    refine post_next ?_
    refine code_ret ?_
    refine post_ret_then ?_
    refine post_ret (rs := [.tmp 4]) rfl (List.Perm.refl _) (.cons (.tmp rfl) .nil) (List.nil_sublist _) ?_
    exact ⟨rfl, rfl⟩
  )
theorem WeighNames_many {I : Imm} {vg : Value} {nm : ByteArray} {gs : List Sy} (hg : RepG I vg gs) (h1 : fewG gs = true) (h2 : ¬ 200 < nm.size) :
    Does Try.prog 8 [vg, .string nm] I [] (fun v I' δ' => v = .bool true ∧ δ' = []) := by
  obtain ⟨ad, c, rfl⟩ := hg.shape
  obtain ⟨_, hc, hb, hat, hok⟩ := hg.open
  refine Does.intro Try.func8 rfl Try.ntmps8 rfl fun w0 => ?_
  refine code_seq ?_
  refine code_region ?_
  refine op_v (v_assign rfl) rfl ?_
  refine ops_nil ?_
  refine post_next ?_
  refine code_seq ?_
  refine code_seq ?_
  refine code_region ?_
  refine op_v (v_move rfl) rfl ?_
  refine op_call pl34 rfl rfl ((FewG_does hg)) Parts.none ?_
  rintro v12 I12 _ hI12 ⟨rfl, rfl⟩
  rw [h1]
  refine op_v (v_not rfl) rfl ?_
  refine op_v (v_move rfl) rfl ?_
  first
    | (refine op_want rfl rfl ?_
       refine op_v (v_move rfl) rfl ?_)
    | (refine op_skip rfl rfl (by simp [undef]) rfl ?_)
  first
    | (refine op_want rfl rfl ?_
       refine op_v (v_lens Try.underlying9 rfl) rfl ?_)
    | (refine op_skip rfl rfl (by simp [undef]) rfl ?_)
  first
    | (refine op_want rfl rfl ?_
       first | refine op_v (v_cmpt rfl rfl rfl (by first | omega | (simp; done) | (simp; omega))) rfl ?_ | refine op_v (v_cmpf rfl rfl rfl (by first | omega | (simp; done) | (simp; omega))) rfl ?_ | refine op_v (v_cmp rfl rfl rfl) rfl ?_)
    | (refine op_skip rfl rfl (by simp [undef]) rfl ?_)
  first | refine op_v (v_pickt rfl rfl) rfl ?_ | refine op_v (v_pickf rfl rfl) rfl ?_ | refine op_v (v_pickb rfl rfl rfl) rfl ?_
  refine ops_nil ?_
  refine post_next ?_
  refine code_cond_f rfl ?_
  refine code_skip ?_
  refine post_next ?_
  refine code_seq ?_
  refine code_seq ?_
  refine code_region ?_
  refine op_v (v_move rfl) rfl ?_
  refine op_call pl35 rfl rfl ((GCheck_does (hg.mono (by repeat (first | exact Imm.le_refl _ | assumption | refine Imm.le_trans ?_ (by assumption)))))) Parts.none ?_
  rintro v20 I20 _ hI20 ⟨rfl, rfl⟩
  by_cases h21 : chkG gs ≠ 0
  · first | refine op_v (v_cmpt rfl rfl rfl (by first | omega | (simp; done) | (simp; omega))) rfl ?_ | refine op_v (v_cmpf rfl rfl rfl (by first | omega | (simp; done) | (simp; omega))) rfl ?_ | refine op_v (v_cmp rfl rfl rfl) rfl ?_
    refine ops_nil ?_
    refine post_next ?_
    refine code_cond_t rfl ?_
    refine code_seq ?_
    refine code_region ?_
    refine op_call pl36 rfl rfl ((awake7_does _)) Parts.none ?_
    rintro v22 I22 _ hI22 ⟨rfl, rfl⟩
    refine op_v (v_assign rfl) rfl ?_
    refine ops_nil ?_
    refine post_next ?_
    refine code_ret ?_
    refine post_ret_then ?_
    refine post_ret (rs := [.tmp 4]) rfl (List.Perm.refl _) (.cons (.tmp rfl) .nil) (List.nil_sublist _) ?_
    exact ⟨rfl, rfl⟩
  · have hr : rightG gs = true := by unfold chkG at h21; by_cases hr : rightG gs = true; (exact hr); (rw [if_neg hr] at h21; simp at h21)
    first | refine op_v (v_cmpt rfl rfl rfl (by first | omega | (simp; done) | (simp; omega))) rfl ?_ | refine op_v (v_cmpf rfl rfl rfl (by first | omega | (simp; done) | (simp; omega))) rfl ?_ | refine op_v (v_cmp rfl rfl rfl) rfl ?_
    refine ops_nil ?_
    refine post_next ?_
    refine code_cond_f rfl ?_
    refine code_skip ?_
    refine post_next ?_
    refine code_seq ?_
    refine code_region ?_
    refine op_v (v_assign rfl) rfl ?_
    refine ops_nil ?_
    refine post_next ?_
    refine code_seq ?_
    refine code_seq ?_
    refine code_region ?_
    refine op_v (v_assign rfl) rfl ?_
    refine ops_nil ?_
    refine post_next ?_
    refine code_block ?_
    refine code_loop (fun m σ' I' δ' => ∃ k : Nat, m = gs.length - k ∧ k ≤ gs.length ∧ σ' = [(0, .slice ad gs.length c), (1, .string nm), (5, .bool (!((gs.take k).any fun s => nmEq s.name nm))), (6, .int .i64 k)] ∧ I.le I' ∧ δ' = []) gs.length [(0, .slice ad gs.length c), (1, .string nm), (5, .bool true), (6, .int .i64 (0 : Nat))] ⟨0, rfl, Nat.zero_le _, rfl, (by repeat (first | exact Imm.le_refl _ | assumption | refine Imm.le_trans ?_ (by assumption))), rfl⟩ ⟨rfl, rfl, rfl, rfl, trivial⟩ ?_
    rintro m _ I0 _ ⟨k, rfl, hk, rfl, hI0, rfl⟩
    refine code_seq ?_
    refine code_seq ?_
    refine code_region ?_
    refine op_v (v_move rfl) rfl ?_
    refine op_v (v_move rfl) rfl ?_
    refine op_v (v_len Try.underlying43 rfl) rfl ?_
    first | refine op_v (v_cmpt rfl rfl rfl (by first | omega | (simp; done) | (simp; omega))) rfl ?_ | refine op_v (v_cmpf rfl rfl rfl (by first | omega | (simp; done) | (simp; omega))) rfl ?_ | refine op_v (v_cmp rfl rfl rfl) rfl ?_
    refine ops_nil ?_
    refine post_next ?_
    refine code_cond rfl (fun hc2 => ?_) (fun hc2 => ?_)
    · have hlt : k < gs.length := by simpa using hc2
      have hs1 := (hat k hlt).isSome
      have hfo := find_own hr k hlt
      refine code_skip ?_
      refine post_next ?_
      refine code_seq ?_
      refine code_block ?_
      refine code_seq ?_
      refine code_region ?_
      refine op_v (v_move rfl) rfl ?_
      refine op_v (v_move rfl) rfl ?_
      refine op_v (v_move rfl) rfl ?_
      first | refine op_v (v_index Try.underlying43 sz49 rfl rfl (by omega) (by assumption)) rfl ?_ | refine op_v (v_indexI Try.underlying43 sz49 rfl rfl (by first | omega | (simp; done) | (simp; omega)) (by first | omega | (simp; done) | (simp; omega)) (by assumption)) rfl ?_
      first | refine op_v (v_fieldB 0 Try.underlying49 rfl rfl fz9 rfl) rfl ?_ | refine op_v (v_fieldI 0 Try.underlying49 rfl rfl fz9 rfl (by assumption)) rfl ?_ | refine op_v (v_field Try.underlying49 rfl fz9 rfl rfl) rfl ?_
      first | refine op_v (v_loadI0 ty9 ((hat k hlt).mono hI0) rfl rfl rfl) rfl ?_ | refine op_v (v_loadI ty9 ((hat k hlt).mono hI0) rfl rfl rfl) rfl ?_
      refine op_call pl37 rfl rfl ((Find_does (hg.mono hI0))) Parts.none ?_
      rintro v36 I36 _ hI36 ⟨rfl, rfl⟩
      rw [hfo, show max (k : Int) 0 = k by omega, show decide (0 ≤ (k : Int)) = true by simp]
      refine op_v (v_move rfl) rfl ?_
      refine op_v (v_extract rfl rfl) rfl ?_
      refine op_v (v_extract rfl rfl) rfl ?_
      refine op_v (v_assign rfl) rfl ?_
      refine op_v (v_assign rfl) rfl ?_
      refine ops_nil ?_
      refine post_next ?_
      refine code_seq ?_
      refine code_seq ?_
      refine code_region ?_
      refine op_v (v_move rfl) rfl ?_
      refine op_v (v_move rfl) rfl ?_
      first | refine op_v (v_cmpt rfl rfl rfl (by first | omega | (simp; done) | (simp; omega))) rfl ?_ | refine op_v (v_cmpf rfl rfl rfl (by first | omega | (simp; done) | (simp; omega))) rfl ?_ | refine op_v (v_cmp rfl rfl rfl) rfl ?_
      refine op_v (v_move rfl) rfl ?_
      first
        | (refine op_want rfl rfl ?_
           refine op_v (v_move rfl) rfl ?_)
        | (refine op_skip rfl rfl (by simp [undef]) rfl ?_)
      first
        | (refine op_want rfl rfl ?_
           refine op_v (v_not rfl) rfl ?_)
        | (refine op_skip rfl rfl (by simp [undef]) rfl ?_)
      first | refine op_v (v_pickt rfl rfl) rfl ?_ | refine op_v (v_pickf rfl rfl) rfl ?_ | refine op_v (v_pickb rfl rfl rfl) rfl ?_
      refine ops_nil ?_
      refine post_next ?_
      refine code_cond_f rfl ?_
      refine code_skip ?_
      refine post_next ?_
      refine code_region ?_
      by_cases h46 : ((gs.take k).any fun s => nmEq s.name nm) = true
      · rw [h46]
        refine op_v (v_move rfl) rfl ?_
        refine op_v (v_move rfl) rfl ?_
        first
          | (refine op_want rfl rfl ?_
             refine op_v (v_move rfl) rfl ?_)
          | (refine op_skip rfl rfl (by simp [undef]) rfl ?_)
        first
          | (refine op_want rfl rfl ?_
             refine op_v (v_move rfl) rfl ?_)
          | (refine op_skip rfl rfl (by simp [undef]) rfl ?_)
        first
          | (refine op_want rfl rfl ?_
             first | refine op_v (v_index Try.underlying43 sz49 rfl rfl (by omega) (by assumption)) rfl ?_ | refine op_v (v_indexI Try.underlying43 sz49 rfl rfl (by first | omega | (simp; done) | (simp; omega)) (by first | omega | (simp; done) | (simp; omega)) (by assumption)) rfl ?_)
          | (refine op_skip rfl rfl (by simp [undef]) rfl ?_)
        first
          | (refine op_want rfl rfl ?_
             first | refine op_v (v_fieldB 0 Try.underlying49 rfl rfl fz9 rfl) rfl ?_ | refine op_v (v_fieldI 0 Try.underlying49 rfl rfl fz9 rfl (by assumption)) rfl ?_ | refine op_v (v_field Try.underlying49 rfl fz9 rfl rfl) rfl ?_)
          | (refine op_skip rfl rfl (by simp [undef]) rfl ?_)
        first
          | (refine op_want rfl rfl ?_
             first | refine op_v (v_loadI0 ty9 ((hat k hlt).mono (by repeat (first | exact Imm.le_refl _ | assumption | refine Imm.le_trans ?_ (by assumption)))) rfl rfl rfl) rfl ?_ | refine op_v (v_loadI ty9 ((hat k hlt).mono (by repeat (first | exact Imm.le_refl _ | assumption | refine Imm.le_trans ?_ (by assumption)))) rfl rfl rfl) rfl ?_)
          | (refine op_skip rfl rfl (by simp [undef]) rfl ?_)
        first
          | (refine op_want rfl rfl ?_
             refine op_v (v_move rfl) rfl ?_)
          | (refine op_skip rfl rfl (by simp [undef]) rfl ?_)
        first
          | (refine op_want rfl rfl ?_
             refine op_v (v_eqs (z := !(nmEq gs[k].name nm)) rfl rfl rfl) rfl ?_)
          | (refine op_skip rfl rfl (by simp [undef]) rfl ?_)
        first | refine op_v (v_pickt rfl rfl) rfl ?_ | refine op_v (v_pickf rfl rfl) rfl ?_ | refine op_v (v_pickb rfl rfl rfl) rfl ?_
        refine op_v (v_assign rfl) rfl ?_
        refine ops_nil ?_
        refine post_out ?_
        refine post_next ?_
        refine code_region ?_
        refine op_v (v_move rfl) rfl ?_
        first | refine op_v (v_addb rfl rfl rfl (by omega)) rfl ?_ | refine op_v (v_add rfl rfl) rfl ?_
        refine op_v (v_assign rfl) rfl ?_
        refine ops_nil ?_
        refine post_again (gs.length - (k + 1)) [(0, .slice ad gs.length c), (1, .string nm), (5, .bool false), (6, .int .i64 (k + 1 : Nat))] (by omega) ⟨k + 1, rfl, hlt, by rw [List.take_succ_eq_append_getElem hlt, List.any_append, h46]; rfl, (by repeat (first | exact Imm.le_refl _ | assumption | refine Imm.le_trans ?_ (by assumption))), rfl⟩ ⟨rfl, rfl, rfl, rfl, trivial⟩
      · have h46' : ((gs.take k).any fun s => nmEq s.name nm) = false := by simpa using h46
        rw [h46']
        refine op_v (v_move rfl) rfl ?_
        refine op_v (v_move rfl) rfl ?_
        first
          | (refine op_want rfl rfl ?_
             refine op_v (v_move rfl) rfl ?_)
          | (refine op_skip rfl rfl (by simp [undef]) rfl ?_)
        first
          | (refine op_want rfl rfl ?_
             refine op_v (v_move rfl) rfl ?_)
          | (refine op_skip rfl rfl (by simp [undef]) rfl ?_)
        first
          | (refine op_want rfl rfl ?_
             first | refine op_v (v_index Try.underlying43 sz49 rfl rfl (by omega) (by assumption)) rfl ?_ | refine op_v (v_indexI Try.underlying43 sz49 rfl rfl (by first | omega | (simp; done) | (simp; omega)) (by first | omega | (simp; done) | (simp; omega)) (by assumption)) rfl ?_)
          | (refine op_skip rfl rfl (by simp [undef]) rfl ?_)
        first
          | (refine op_want rfl rfl ?_
             first | refine op_v (v_fieldB 0 Try.underlying49 rfl rfl fz9 rfl) rfl ?_ | refine op_v (v_fieldI 0 Try.underlying49 rfl rfl fz9 rfl (by assumption)) rfl ?_ | refine op_v (v_field Try.underlying49 rfl fz9 rfl rfl) rfl ?_)
          | (refine op_skip rfl rfl (by simp [undef]) rfl ?_)
        first
          | (refine op_want rfl rfl ?_
             first | refine op_v (v_loadI0 ty9 ((hat k hlt).mono (by repeat (first | exact Imm.le_refl _ | assumption | refine Imm.le_trans ?_ (by assumption)))) rfl rfl rfl) rfl ?_ | refine op_v (v_loadI ty9 ((hat k hlt).mono (by repeat (first | exact Imm.le_refl _ | assumption | refine Imm.le_trans ?_ (by assumption)))) rfl rfl rfl) rfl ?_)
          | (refine op_skip rfl rfl (by simp [undef]) rfl ?_)
        first
          | (refine op_want rfl rfl ?_
             refine op_v (v_move rfl) rfl ?_)
          | (refine op_skip rfl rfl (by simp [undef]) rfl ?_)
        first
          | (refine op_want rfl rfl ?_
             refine op_v (v_eqs (z := !(nmEq gs[k].name nm)) rfl rfl rfl) rfl ?_)
          | (refine op_skip rfl rfl (by simp [undef]) rfl ?_)
        first | refine op_v (v_pickt rfl rfl) rfl ?_ | refine op_v (v_pickf rfl rfl) rfl ?_ | refine op_v (v_pickb rfl rfl rfl) rfl ?_
        refine op_v (v_assign rfl) rfl ?_
        refine ops_nil ?_
        refine post_out ?_
        refine post_next ?_
        refine code_region ?_
        refine op_v (v_move rfl) rfl ?_
        first | refine op_v (v_addb rfl rfl rfl (by omega)) rfl ?_ | refine op_v (v_add rfl rfl) rfl ?_
        refine op_v (v_assign rfl) rfl ?_
        refine ops_nil ?_
        refine post_again (gs.length - (k + 1)) [(0, .slice ad gs.length c), (1, .string nm), (5, .bool (!(nmEq gs[k].name nm))), (6, .int .i64 (k + 1 : Nat))] (by omega) ⟨k + 1, rfl, hlt, by rw [List.take_succ_eq_append_getElem hlt, List.any_append, h46']; simp, (by repeat (first | exact Imm.le_refl _ | assumption | refine Imm.le_trans ?_ (by assumption))), rfl⟩ ⟨rfl, rfl, rfl, rfl, trivial⟩
    · have hge : k = gs.length := by simp at hc2; omega
      rw [hge, List.take_length]
      refine code_exit ?_
      refine post_exit_then ?_
      refine post_exit_then ?_
      refine post_exit ?_
      refine post_next ?_
      refine code_seq ?_
      refine code_region ?_
      refine op_v (v_move rfl) rfl ?_
      refine op_v (v_move rfl) rfl ?_
      refine op_call pl37 rfl rfl ((Find_does (hg.mono hI0))) Parts.none ?_
      rintro v59 I59 _ hI59 ⟨rfl, rfl⟩
      have hq : decide (0 ≤ findN gs nm) = (gs.any fun s => nmEq s.name nm) := by have h := idxP_any (fun s => nmEq s.name nm) gs; unfold findN; cases hx : gs.any (fun s => nmEq s.name nm) <;> simp_all
      rw [hq]
      generalize (gs.any fun s => nmEq s.name nm) = bq
      refine op_v (v_move rfl) rfl ?_
      refine op_v (v_extract rfl rfl) rfl ?_
      refine op_v (v_extract rfl rfl) rfl ?_
      refine op_v (v_assign rfl) rfl ?_
      refine op_v (v_assign rfl) rfl ?_
      refine ops_nil ?_
      refine post_next ?_
      refine code_seq ?_
      refine code_region ?_
      refine op_call pl36 rfl rfl ((awake7_does _)) Parts.none ?_
      rintro v62 I62 _ hI62 ⟨rfl, rfl⟩
      refine op_v (v_move rfl) rfl ?_
      first
        | (refine op_want rfl rfl ?_
           refine op_v (v_move rfl) rfl ?_)
        | (refine op_skip rfl rfl (by simp [undef]) rfl ?_)
      first
        | (refine op_want rfl rfl ?_
           refine op_v (v_move rfl) rfl ?_)
        | (refine op_skip rfl rfl (by simp [undef]) rfl ?_)
      first
        | (refine op_want rfl rfl ?_
           refine op_v (v_not rfl) rfl ?_)
        | (refine op_skip rfl rfl (by simp [undef]) rfl ?_)
      first
        | (refine op_want rfl rfl ?_
           refine op_v (v_eqb Try.underlying4 rfl rfl rfl) rfl ?_)
        | (refine op_skip rfl rfl (by simp [undef]) rfl ?_)
      first | refine op_v (v_pickt rfl rfl) rfl ?_ | refine op_v (v_pickf rfl rfl) rfl ?_ | refine op_v (v_pickb rfl rfl rfl) rfl ?_
      refine op_v (v_assign rfl) rfl ?_
      refine ops_nil ?_
      refine post_next ?_
      refine code_ret ?_
      refine post_ret (rs := [.tmp 4]) rfl (List.Perm.refl _) (.cons (.tmp rfl) .nil) (List.nil_sublist _) ?_
      exact ⟨by cases bq <;> rfl, rfl⟩
theorem WeighNames_does {I : Imm} {vg : Value} {nm : ByteArray} {gs : List Sy} (hg : RepG I vg gs) :
    Does Try.prog 8 [vg, .string nm] I [] (fun v I' δ' => v = .bool true ∧ δ' = []) := by
  cases h : (fewG gs && !decide (200 < nm.size))
  · exact WeighNames_few hg _ _ rfl rfl h
  · rw [Bool.and_eq_true] at h
    exact WeighNames_many hg h.1 (by simpa using h.2)
end Go.Proofs.Ytdcklngleglbbaa
