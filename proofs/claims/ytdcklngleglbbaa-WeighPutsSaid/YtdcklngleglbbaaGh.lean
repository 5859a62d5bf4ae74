/- Walks: the example of the chapter on weights; the statement on names. -/
import Derived.Test.YtdcklngleglbbaaGg
set_option linter.unusedVariables false
set_option linter.unusedSimpArgs false
namespace Go.Proofs.Ytdcklngleglbbaa
open Go Lg

theorem awake7_does (I : Imm) :
    Does Try.prog 36 [] I [] (fun v I' δ' => v = .bool true ∧ δ' = []) := by
  have hC : tC.size = 4 := by decide +kernel
  have hD : tD.size = 2 := by decide +kernel
  refine Does.intro Try.func36 rfl Try.ntmps36 rfl fun w0 => ?_
  refine code_seq ?_
  refine code_region ?_
  refine op_v (v_assign rfl) rfl ?_
  refine ops_nil ?_
  refine post_next ?_
  refine code_seq ?_
  refine code_region ?_
  refine op_call pl58 rfl rfl ((Var_does (by omega) (by omega))) Parts.none ?_
  rintro v7 I7 _ hI7 ⟨hv7, rfl⟩
  change RepT I7 v7 (.mk (-1) []) at hv7
  obtain ⟨a7, c7, rfl, _⟩ := hv7.shape
  refine o_alloc z24 rfl rfl (fun b1 => ?_)
  refine o_store ty24 rfl rfl rfl rfl rfl (by repeat (first | exact Swap.here | apply Swap.there)) rfl ?_
  refine ops_nil ?_
  refine post_next ?_
  refine code_seq ?_
  refine code_draw (.fl 0 (.fl 1 (.two 2 6 (.two 3 6 (.two 4 6 (.two 5 6 (.ef 6 (.ef 7 .done)) (.ef 5 (.ef 7 .done))) (.ef 4 (.ef 5 (.ef 7 .done)))) (.ef 3 (.ef 4 (.ef 5 (.ef 7 .done))))) (.ef 2 (.ef 3 (.ef 4 (.ef 5 (.ef 7 .done)))))))) (fun _ => _) mixed (by kernel_rfl) (by kernel_rfl) (fun _ => (List.Sublist.refl _)) ?_
  refine e_float rfl rfl (fun hs_ => PF.mk rfl (v_load ty24 rfl (by repeat (first | exact Has.here | apply Has.there)) rfl) hs_) (by repeat (first | exact Imm.le_refl _ | assumption | refine Imm.le_trans ?_ (by assumption))) (by intro x hx; first | exact hx | exact List.mem_cons_of_mem _ hx | exact List.mem_append_right _ hx | (simp only [List.mem_cons, List.not_mem_nil, or_false] at hx; repeat' (first | (subst hx; simp [cellsL]; done) | rcases hx with hx | hx)) | simp_all) ?_
  refine e_float rfl rfl (fun hs_ => PF.mk rfl (v_load ty24 rfl (by repeat (first | exact Has.here | apply Has.there)) rfl) hs_) (by repeat (first | exact Imm.le_refl _ | assumption | refine Imm.le_trans ?_ (by assumption))) (by intro x hx; first | exact hx | exact List.mem_cons_of_mem _ hx | exact List.mem_append_right _ hx | (simp only [List.mem_cons, List.not_mem_nil, or_false] at hx; repeat' (first | (subst hx; simp [cellsL]; done) | rcases hx with hx | hx)) | simp_all) ?_
  refine e_two rfl (by intro cs b hc; cases hc) (by intro c hc; cases hc) rfl (by intro cs b hc; cases hc) (by intro c hc; cases hc) ?_ ?_
  · refine o_buildSlice (xs := [(Go.Operand.tmp 9)]) Try.underlying22 bs24 rfl rfl rfl rfl rfl (fun b10 => ?_)
    refine OpsJ.freezeRow Del.here ?_
    rintro I10 a10 c10 hI10 hq hc10 hl10 hcells10
    cases hq
    refine ops_nil ?_
    refine e_next rfl (side_all (by repeat (first | exact Imm.le_refl _ | assumption | refine Imm.le_trans ?_ (by assumption))) (fun _ => (by intro x hx; first | exact hx | exact List.mem_cons_of_mem _ hx | exact List.mem_append_right _ hx | (simp only [List.mem_cons, List.not_mem_nil, or_false] at hx; repeat' (first | (subst hx; simp [cellsL]; done) | rcases hx with hx | hx)) | simp_all))) ?_
    refine e_two rfl (by intro cs b hc; cases hc) (by intro c hc; cases hc) rfl (by intro cs b hc; cases hc) (by intro c hc; cases hc) ?_ ?_
    · refine op_call pl53 rfl rfl ((Fun_does (by unfold InR; omega) (RowT.repS rfl hcells10 (RowT.one (hv7.mono hI10)) hc10 (by omega)))) Parts.none ?_
      rintro v11 I11 _ hI11 ⟨hv11, rfl⟩
      obtain ⟨a11, c11, rfl, _⟩ := hv11.shape
      refine ops_nil ?_
      refine e_next rfl (side_all (by repeat (first | exact Imm.le_refl _ | assumption | refine Imm.le_trans ?_ (by assumption))) (fun _ => (by intro x hx; first | exact hx | exact List.mem_cons_of_mem _ hx | exact List.mem_append_right _ hx | (simp only [List.mem_cons, List.not_mem_nil, or_false] at hx; repeat' (first | (subst hx; simp [cellsL]; done) | rcases hx with hx | hx)) | simp_all))) ?_
      refine e_two rfl (by intro cs b hc; cases hc) (by intro c hc; cases hc) rfl (by intro cs b hc; cases hc) (by intro c hc; cases hc) ?_ ?_
      · refine o_buildSlice (xs := [(Go.Operand.tmp 8), (Go.Operand.tmp 11)]) Try.underlying22 bs24 rfl rfl rfl rfl rfl (fun b12 => ?_)
        refine OpsJ.freezeRow Del.here ?_
        rintro I12 a12 c12 hI12 hq hc12 hl12 hcells12
        cases hq
        refine ops_nil ?_
        refine e_next rfl (side_nil (by kernel_rfl)) ?_
        refine e_two rfl (by intro cs b hc; cases hc) (by intro c hc; cases hc) rfl (by intro cs b hc; cases hc) (by intro c hc; cases hc) ?_ ?_
        · refine op_call pl53 rfl rfl ((Fun_does (by unfold InR; omega) (RowT.repS rfl hcells12 ((RowT.one (hv7.mono (by repeat (first | exact Imm.le_refl _ | assumption | refine Imm.le_trans ?_ (by assumption))))).app (RowT.one (hv11.mono hI12))) hc12 (by omega)))) Parts.none ?_
          rintro v13 I13 _ hI13 ⟨hv13, rfl⟩
          change RepT I13 _ tC at hv13
          obtain ⟨a13, c13, rfl, _⟩ := hv13.shape
          refine ops_nil ?_
          refine e_next rfl (side_nil (by kernel_rfl)) ?_
          refine e_eff rfl (by intro cs b hc; cases hc) (by intro c hc; cases hc) ?_
          refine o_alloc z24 rfl rfl (fun b2 => ?_)
          refine ops_nil ?_
          refine e_next rfl (side_nil (by kernel_rfl)) ?_
          refine e_eff rfl (by intro cs b hc; cases hc) (by intro c hc; cases hc) ?_
          refine o_store ty24 rfl rfl rfl rfl rfl (by repeat (first | exact Swap.here | apply Swap.there)) rfl ?_
          refine ops_nil ?_
          refine e_next_ (side_nil (by kernel_rfl)) ?_
          refine e_done ?_
          refine post_next ?_
          refine code_seq ?_
          refine code_draw (.fl 1 (.ef 0 (.ef 2 (.fl 3 (.fl 4 (.fl 5 (.ef 6 (.ef 7 .done)))))))) (fun _ => _) mixed (by kernel_rfl) (by kernel_rfl) (fun _ => (List.Sublist.refl _)) ?_
          refine e_float rfl rfl (fun hs_ => PF.mk rfl (v_load ty24 rfl (by repeat (first | exact Has.here | apply Has.there)) rfl) hs_) (by repeat (first | exact Imm.le_refl _ | assumption | refine Imm.le_trans ?_ (by assumption))) (by intro x hx; first | exact hx | exact List.mem_cons_of_mem _ hx | exact List.mem_append_right _ hx | (simp only [List.mem_cons, List.not_mem_nil, or_false] at hx; repeat' (first | (subst hx; simp [cellsL]; done) | rcases hx with hx | hx)) | simp_all) ?_
          refine e_eff rfl (by intro cs b hc; cases hc) (by intro c hc; cases hc) ?_
          refine op_call pl62 rfl rfl (toy_does) Parts.none ?_
          rintro v15 I15 _ hI15 ⟨hg15, rfl⟩
          refine ops_nil ?_
          refine e_next rfl (side_all (by repeat (first | exact Imm.le_refl _ | assumption | refine Imm.le_trans ?_ (by assumption))) (fun _ => (by intro x hx; first | exact hx | exact List.mem_cons_of_mem _ hx | exact List.mem_append_right _ hx | (simp only [List.mem_cons, List.not_mem_nil, or_false] at hx; repeat' (first | (subst hx; simp [cellsL]; done) | rcases hx with hx | hx)) | simp_all))) ?_
          refine e_eff rfl (by intro cs b hc; cases hc) (by intro c hc; cases hc) ?_
          refine op_call pl44 rfl rfl ((GWeight_does hg15 (hv13.mono (by repeat (first | exact Imm.le_refl _ | assumption | refine Imm.le_trans ?_ (by assumption)))) (by omega))) Parts.none ?_
          rintro v17 I17 _ hI17 ⟨rfl, rfl⟩
          rw [toy_C, if_pos rfl, toy_Cw]
          refine ops_nil ?_
          refine e_next rfl (side_nil (by kernel_rfl)) ?_
          refine e_float rfl rfl (fun hs_ => PF.mk rfl (v_move rfl) hs_) (by repeat (first | exact Imm.le_refl _ | assumption | refine Imm.le_trans ?_ (by assumption))) (by intro x hx; first | exact hx | exact List.mem_cons_of_mem _ hx | exact List.mem_append_right _ hx | (simp only [List.mem_cons, List.not_mem_nil, or_false] at hx; repeat' (first | (subst hx; simp [cellsL]; done) | rcases hx with hx | hx)) | simp_all) ?_
          refine e_float rfl rfl (fun hs_ => PF.mk rfl (v_extract rfl rfl) hs_) (by repeat (first | exact Imm.le_refl _ | assumption | refine Imm.le_trans ?_ (by assumption))) (by intro x hx; first | exact hx | exact List.mem_cons_of_mem _ hx | exact List.mem_append_right _ hx | (simp only [List.mem_cons, List.not_mem_nil, or_false] at hx; repeat' (first | (subst hx; simp [cellsL]; done) | rcases hx with hx | hx)) | simp_all) ?_
          refine e_float rfl rfl (fun hs_ => PF.mk rfl (v_extract rfl rfl) hs_) (by repeat (first | exact Imm.le_refl _ | assumption | refine Imm.le_trans ?_ (by assumption))) (by intro x hx; first | exact hx | exact List.mem_cons_of_mem _ hx | exact List.mem_append_right _ hx | (simp only [List.mem_cons, List.not_mem_nil, or_false] at hx; repeat' (first | (subst hx; simp [cellsL]; done) | rcases hx with hx | hx)) | simp_all) ?_
          refine e_eff rfl (by intro cs b hc; cases hc) (by intro c hc; cases hc) ?_
          refine op_v (v_assign rfl) rfl ?_
          refine ops_nil ?_
          refine e_next rfl (side_all (by repeat (first | exact Imm.le_refl _ | assumption | refine Imm.le_trans ?_ (by assumption))) (fun _ => (by intro x hx; first | exact hx | exact List.mem_cons_of_mem _ hx | exact List.mem_append_right _ hx | (simp only [List.mem_cons, List.not_mem_nil, or_false] at hx; repeat' (first | (subst hx; simp [cellsL]; done) | rcases hx with hx | hx)) | simp_all))) ?_
          refine e_eff rfl (by intro cs b hc; cases hc) (by intro c hc; cases hc) ?_
          refine op_v (v_assign rfl) rfl ?_
          refine ops_nil ?_
          refine e_next rfl (side_nil (by kernel_rfl)) ?_
          refine e_done ?_
          refine post_next ?_
          refine code_seq ?_
          refine code_region ?_
          refine op_call pl62 rfl rfl (toy_does) Parts.none ?_
          rintro v21 I21 _ hI21 ⟨hg21, rfl⟩
          refine op_call pl37 rfl rfl ((Find_does hg21)) Parts.none ?_
          rintro v22 I22 _ hI22 ⟨rfl, rfl⟩
          rw [toy_find]
          refine op_v (v_move rfl) rfl ?_
          refine op_v (v_extract rfl rfl) rfl ?_
          refine op_v (v_extract rfl rfl) rfl ?_
          refine op_v (v_assign rfl) rfl ?_
          refine op_v (v_assign rfl) rfl ?_
          refine ops_nil ?_
          refine post_next ?_
          refine code_seq ?_
          refine code_region ?_
          refine op_v (v_move rfl) rfl ?_
          first | refine op_v (v_cmpt rfl rfl rfl (by first | omega | (simp; done) | (simp; omega))) rfl ?_ | refine op_v (v_cmpf rfl rfl rfl (by first | omega | (simp; done) | (simp; omega))) rfl ?_ | refine op_v (v_cmp rfl rfl rfl) rfl ?_
          refine op_v (v_move rfl) rfl ?_
          first
            | (refine op_want rfl rfl ?_
               refine op_v (v_move rfl) rfl ?_)
            | (refine op_skip rfl rfl (by simp [undef]) rfl ?_)
          first
            | (refine op_want rfl rfl ?_
               first | refine op_v (v_cmpt rfl rfl rfl (by first | omega | (simp; done) | (simp; omega))) rfl ?_ | refine op_v (v_cmpf rfl rfl rfl (by first | omega | (simp; done) | (simp; omega))) rfl ?_ | refine op_v (v_cmp rfl rfl rfl) rfl ?_)
            | (refine op_skip rfl rfl (by simp [undef]) rfl ?_)
          first | refine op_v (v_pickt rfl rfl) rfl ?_ | refine op_v (v_pickf rfl rfl) rfl ?_ | refine op_v (v_pickb rfl rfl rfl) rfl ?_
          refine op_v (v_move rfl) rfl ?_
          first
            | (refine op_want rfl rfl ?_
               refine op_v (v_load ty24 rfl (by repeat (first | exact Has.here | apply Has.there)) rfl) rfl ?_)
            | (refine op_skip rfl rfl (by simp [undef]) rfl ?_)
          first
            | (refine op_want rfl rfl ?_
               refine op_call pl48 rfl rfl ((Counts_does (hv13.mono (by repeat (first | exact Imm.le_refl _ | assumption | refine Imm.le_trans ?_ (by assumption)))) (by omega))) Parts.none ?_
               rintro v33 I33 _ hI33 ⟨⟨cs33, hcs33, hC33⟩, rfl⟩
               obtain rfl := toy_counts hC33)
            | (refine op_skip rfl rfl (by simp [undef]) rfl ?_)
          first
            | (refine op_want rfl rfl ?_
               refine o_buildSlice (xs := [(Go.Operand.const (Go.Value.int Go.IntKind.i64 2))]) Try.underlying25 bs3 rfl rfl rfl rfl rfl (fun b34 => ?_)
               refine OpsJ.freezeRow Del.here ?_
               rintro I34 a34 c34 hI34 hq hc34 hl34 hcells34
               cases hq)
            | (refine op_skip rfl rfl (by simp [undef]) rfl ?_)
          first
            | (refine op_want rfl rfl ?_
               refine op_call pl31 rfl rfl ((Ints_does _ (hcs33.mono hI34) (RInts.lit (xs := [2]) hcells34 hc34 rfl))) Parts.none ?_
               rintro v35 I35 _ hI35 ⟨rfl, rfl⟩
               rw [show decide (([2] : List Int) = [2]) = true by decide])
            | (refine op_skip rfl rfl (by simp [undef]) rfl ?_)
          first | refine op_v (v_pickt rfl rfl) rfl ?_ | refine op_v (v_pickf rfl rfl) rfl ?_ | refine op_v (v_pickb rfl rfl rfl) rfl ?_
          refine op_v (v_move rfl) rfl ?_
          first
            | (refine op_want rfl rfl ?_
               refine op_v (v_move rfl) rfl ?_)
            | (refine op_skip rfl rfl (by simp [undef]) rfl ?_)
          first
            | (refine op_want rfl rfl ?_
               first | refine op_v (v_cmpt rfl rfl rfl (by first | omega | (simp; done) | (simp; omega))) rfl ?_ | refine op_v (v_cmpf rfl rfl rfl (by first | omega | (simp; done) | (simp; omega))) rfl ?_ | refine op_v (v_cmp rfl rfl rfl) rfl ?_)
            | (refine op_skip rfl rfl (by simp [undef]) rfl ?_)
          first | refine op_v (v_pickt rfl rfl) rfl ?_ | refine op_v (v_pickf rfl rfl) rfl ?_ | refine op_v (v_pickb rfl rfl rfl) rfl ?_
          refine op_v (v_move rfl) rfl ?_
          first
            | (refine op_want rfl rfl ?_
               refine op_v (v_move rfl) rfl ?_)
            | (refine op_skip rfl rfl (by simp [undef]) rfl ?_)
          first | refine op_v (v_pickt rfl rfl) rfl ?_ | refine op_v (v_pickf rfl rfl) rfl ?_ | refine op_v (v_pickb rfl rfl rfl) rfl ?_
          refine op_v (v_move rfl) rfl ?_
          first
            | (refine op_want rfl rfl ?_
               refine op_call pl62 rfl rfl (toy_does) Parts.none ?_
               rintro v45 I45 _ hI45 ⟨hg45, rfl⟩)
            | (refine op_skip rfl rfl (by simp [undef]) rfl ?_)
          first
            | (refine op_want rfl rfl ?_
               refine op_call pl53 rfl rfl ((Fun_does (by unfold InR; omega) (RepS.nil _))) Parts.none ?_
               rintro v46 I46 _ hI46 ⟨hv46, rfl⟩
               obtain ⟨a46, c46, rfl, _⟩ := hv46.shape)
            | (refine op_skip rfl rfl (by simp [undef]) rfl ?_)
          first
            | (refine op_want rfl rfl ?_
               refine o_buildSlice (xs := [(Go.Operand.tmp 46)]) Try.underlying22 bs24 rfl rfl rfl rfl rfl (fun b47 => ?_)
               refine OpsJ.freezeRow Del.here ?_
               rintro I47 a47 c47 hI47 hq hc47 hl47 hcells47
               cases hq)
            | (refine op_skip rfl rfl (by simp [undef]) rfl ?_)
          first
            | (refine op_want rfl rfl ?_
               refine op_call pl53 rfl rfl ((Fun_does (by unfold InR; omega) (RowT.repS rfl hcells47 (RowT.one (hv46.mono hI47)) hc47 (by omega)))) Parts.none ?_
               rintro v48 I48 _ hI48 ⟨hv48, rfl⟩
               change RepT I48 _ tD at hv48)
            | (refine op_skip rfl rfl (by simp [undef]) rfl ?_)
          first
            | (refine op_want rfl rfl ?_
               refine op_call pl63 rfl rfl ((GTerm_does (hg45.mono (by repeat (first | exact Imm.le_refl _ | assumption | refine Imm.le_trans ?_ (by assumption)))) hv48 (by omega))) Parts.none ?_
               rintro v49 I49 _ hI49 ⟨rfl, rfl⟩
               rw [toy_D])
            | (refine op_skip rfl rfl (by simp [undef]) rfl ?_)
          first
            | (refine op_want rfl rfl ?_
               first | refine op_v (v_cmpt rfl rfl rfl (by first | omega | (simp; done) | (simp; omega))) rfl ?_ | refine op_v (v_cmpf rfl rfl rfl (by first | omega | (simp; done) | (simp; omega))) rfl ?_ | refine op_v (v_cmp rfl rfl rfl) rfl ?_)
            | (refine op_skip rfl rfl (by simp [undef]) rfl ?_)
          first | refine op_v (v_pickt rfl rfl) rfl ?_ | refine op_v (v_pickf rfl rfl) rfl ?_ | refine op_v (v_pickb rfl rfl rfl) rfl ?_
          refine op_v (v_assign rfl) rfl ?_
          refine ops_nil ?_
          refine post_next ?_
          refine code_ret ?_
          refine post_ret (rs := [.tmp 0]) rfl (List.Perm.refl _) (.cons (.tmp rfl) .nil) (List.nil_sublist _) ?_
          exact ⟨rfl, rfl⟩
        · refine o_alloc z24 rfl rfl (fun b2 => ?_)
          refine ops_nil ?_
          refine e_next rfl (side_nil (by kernel_rfl)) ?_
          refine e_eff rfl (by intro cs b hc; cases hc) (by intro c hc; cases hc) ?_
          refine op_call pl53 rfl rfl ((Fun_does (by unfold InR; omega) (RowT.repS rfl hcells12 ((RowT.one (hv7.mono (by repeat (first | exact Imm.le_refl _ | assumption | refine Imm.le_trans ?_ (by assumption))))).app (RowT.one (hv11.mono hI12))) hc12 (by omega)))) Parts.none ?_
          rintro v13 I13 _ hI13 ⟨hv13, rfl⟩
          change RepT I13 _ tC at hv13
          obtain ⟨a13, c13, rfl, _⟩ := hv13.shape
          refine ops_nil ?_
          refine e_next rfl (side_nil (by kernel_rfl)) ?_
          refine e_eff rfl (by intro cs b hc; cases hc) (by intro c hc; cases hc) ?_
          refine o_store ty24 rfl rfl rfl rfl rfl (by repeat (first | exact Swap.here | apply Swap.there)) rfl ?_
          refine ops_nil ?_
          refine e_next_ (side_nil (by kernel_rfl)) ?_
          refine e_done ?_
          refine post_next ?_
          refine code_seq ?_
          refine code_draw (.fl 1 (.ef 0 (.ef 2 (.fl 3 (.fl 4 (.fl 5 (.ef 6 (.ef 7 .done)))))))) (fun _ => _) mixed (by kernel_rfl) (by kernel_rfl) (fun _ => (List.Sublist.refl _)) ?_
          refine e_float rfl rfl (fun hs_ => PF.mk rfl (v_load ty24 rfl (by repeat (first | exact Has.here | apply Has.there)) rfl) hs_) (by repeat (first | exact Imm.le_refl _ | assumption | refine Imm.le_trans ?_ (by assumption))) (by intro x hx; first | exact hx | exact List.mem_cons_of_mem _ hx | exact List.mem_append_right _ hx | (simp only [List.mem_cons, List.not_mem_nil, or_false] at hx; repeat' (first | (subst hx; simp [cellsL]; done) | rcases hx with hx | hx)) | simp_all) ?_
          refine e_eff rfl (by intro cs b hc; cases hc) (by intro c hc; cases hc) ?_
          refine op_call pl62 rfl rfl (toy_does) Parts.none ?_
          rintro v15 I15 _ hI15 ⟨hg15, rfl⟩
          refine ops_nil ?_
          refine e_next rfl (side_all (by repeat (first | exact Imm.le_refl _ | assumption | refine Imm.le_trans ?_ (by assumption))) (fun _ => (by intro x hx; first | exact hx | exact List.mem_cons_of_mem _ hx | exact List.mem_append_right _ hx | (simp only [List.mem_cons, List.not_mem_nil, or_false] at hx; repeat' (first | (subst hx; simp [cellsL]; done) | rcases hx with hx | hx)) | simp_all))) ?_
          refine e_eff rfl (by intro cs b hc; cases hc) (by intro c hc; cases hc) ?_
          refine op_call pl44 rfl rfl ((GWeight_does hg15 (hv13.mono (by repeat (first | exact Imm.le_refl _ | assumption | refine Imm.le_trans ?_ (by assumption)))) (by omega))) Parts.none ?_
          rintro v17 I17 _ hI17 ⟨rfl, rfl⟩
          rw [toy_C, if_pos rfl, toy_Cw]
          refine ops_nil ?_
          refine e_next rfl (side_nil (by kernel_rfl)) ?_
          refine e_float rfl rfl (fun hs_ => PF.mk rfl (v_move rfl) hs_) (by repeat (first | exact Imm.le_refl _ | assumption | refine Imm.le_trans ?_ (by assumption))) (by intro x hx; first | exact hx | exact List.mem_cons_of_mem _ hx | exact List.mem_append_right _ hx | (simp only [List.mem_cons, List.not_mem_nil, or_false] at hx; repeat' (first | (subst hx; simp [cellsL]; done) | rcases hx with hx | hx)) | simp_all) ?_
          refine e_float rfl rfl (fun hs_ => PF.mk rfl (v_extract rfl rfl) hs_) (by repeat (first | exact Imm.le_refl _ | assumption | refine Imm.le_trans ?_ (by assumption))) (by intro x hx; first | exact hx | exact List.mem_cons_of_mem _ hx | exact List.mem_append_right _ hx | (simp only [List.mem_cons, List.not_mem_nil, or_false] at hx; repeat' (first | (subst hx; simp [cellsL]; done) | rcases hx with hx | hx)) | simp_all) ?_
          refine e_float rfl rfl (fun hs_ => PF.mk rfl (v_extract rfl rfl) hs_) (by repeat (first | exact Imm.le_refl _ | assumption | refine Imm.le_trans ?_ (by assumption))) (by intro x hx; first | exact hx | exact List.mem_cons_of_mem _ hx | exact List.mem_append_right _ hx | (simp only [List.mem_cons, List.not_mem_nil, or_false] at hx; repeat' (first | (subst hx; simp [cellsL]; done) | rcases hx with hx | hx)) | simp_all) ?_
          refine e_eff rfl (by intro cs b hc; cases hc) (by intro c hc; cases hc) ?_
          refine op_v (v_assign rfl) rfl ?_
          refine ops_nil ?_
          refine e_next rfl (side_all (by repeat (first | exact Imm.le_refl _ | assumption | refine Imm.le_trans ?_ (by assumption))) (fun _ => (by intro x hx; first | exact hx | exact List.mem_cons_of_mem _ hx | exact List.mem_append_right _ hx | (simp only [List.mem_cons, List.not_mem_nil, or_false] at hx; repeat' (first | (subst hx; simp [cellsL]; done) | rcases hx with hx | hx)) | simp_all))) ?_
          refine e_eff rfl (by intro cs b hc; cases hc) (by intro c hc; cases hc) ?_
          refine op_v (v_assign rfl) rfl ?_
          refine ops_nil ?_
          refine e_next rfl (side_nil (by kernel_rfl)) ?_
          refine e_done ?_
          refine post_next ?_
          refine code_seq ?_
          refine code_region ?_
          refine op_call pl62 rfl rfl (toy_does) Parts.none ?_
          rintro v21 I21 _ hI21 ⟨hg21, rfl⟩
          refine op_call pl37 rfl rfl ((Find_does hg21)) Parts.none ?_
          rintro v22 I22 _ hI22 ⟨rfl, rfl⟩
          rw [toy_find]
          refine op_v (v_move rfl) rfl ?_
          refine op_v (v_extract rfl rfl) rfl ?_
          refine op_v (v_extract rfl rfl) rfl ?_
          refine op_v (v_assign rfl) rfl ?_
          refine op_v (v_assign rfl) rfl ?_
          refine ops_nil ?_
          refine post_next ?_
          refine code_seq ?_
          refine code_region ?_
          refine op_v (v_move rfl) rfl ?_
          first | refine op_v (v_cmpt rfl rfl rfl (by first | omega | (simp; done) | (simp; omega))) rfl ?_ | refine op_v (v_cmpf rfl rfl rfl (by first | omega | (simp; done) | (simp; omega))) rfl ?_ | refine op_v (v_cmp rfl rfl rfl) rfl ?_
          refine op_v (v_move rfl) rfl ?_
          first
            | (refine op_want rfl rfl ?_
               refine op_v (v_move rfl) rfl ?_)
            | (refine op_skip rfl rfl (by simp [undef]) rfl ?_)
          first
            | (refine op_want rfl rfl ?_
               first | refine op_v (v_cmpt rfl rfl rfl (by first | omega | (simp; done) | (simp; omega))) rfl ?_ | refine op_v (v_cmpf rfl rfl rfl (by first | omega | (simp; done) | (simp; omega))) rfl ?_ | refine op_v (v_cmp rfl rfl rfl) rfl ?_)
            | (refine op_skip rfl rfl (by simp [undef]) rfl ?_)
          first | refine op_v (v_pickt rfl rfl) rfl ?_ | refine op_v (v_pickf rfl rfl) rfl ?_ | refine op_v (v_pickb rfl rfl rfl) rfl ?_
          refine op_v (v_move rfl) rfl ?_
          first
            | (refine op_want rfl rfl ?_
               refine op_v (v_load ty24 rfl (by repeat (first | exact Has.here | apply Has.there)) rfl) rfl ?_)
            | (refine op_skip rfl rfl (by simp [undef]) rfl ?_)
          first
            | (refine op_want rfl rfl ?_
               refine op_call pl48 rfl rfl ((Counts_does (hv13.mono (by repeat (first | exact Imm.le_refl _ | assumption | refine Imm.le_trans ?_ (by assumption)))) (by omega))) Parts.none ?_
               rintro v33 I33 _ hI33 ⟨⟨cs33, hcs33, hC33⟩, rfl⟩
               obtain rfl := toy_counts hC33)
            | (refine op_skip rfl rfl (by simp [undef]) rfl ?_)
          first
            | (refine op_want rfl rfl ?_
               refine o_buildSlice (xs := [(Go.Operand.const (Go.Value.int Go.IntKind.i64 2))]) Try.underlying25 bs3 rfl rfl rfl rfl rfl (fun b34 => ?_)
               refine OpsJ.freezeRow Del.here ?_
               rintro I34 a34 c34 hI34 hq hc34 hl34 hcells34
               cases hq)
            | (refine op_skip rfl rfl (by simp [undef]) rfl ?_)
          first
            | (refine op_want rfl rfl ?_
               refine op_call pl31 rfl rfl ((Ints_does _ (hcs33.mono hI34) (RInts.lit (xs := [2]) hcells34 hc34 rfl))) Parts.none ?_
               rintro v35 I35 _ hI35 ⟨rfl, rfl⟩
               rw [show decide (([2] : List Int) = [2]) = true by decide])
            | (refine op_skip rfl rfl (by simp [undef]) rfl ?_)
          first | refine op_v (v_pickt rfl rfl) rfl ?_ | refine op_v (v_pickf rfl rfl) rfl ?_ | refine op_v (v_pickb rfl rfl rfl) rfl ?_
          refine op_v (v_move rfl) rfl ?_
          first
            | (refine op_want rfl rfl ?_
               refine op_v (v_move rfl) rfl ?_)
            | (refine op_skip rfl rfl (by simp [undef]) rfl ?_)
          first
            | (refine op_want rfl rfl ?_
               first | refine op_v (v_cmpt rfl rfl rfl (by first | omega | (simp; done) | (simp; omega))) rfl ?_ | refine op_v (v_cmpf rfl rfl rfl (by first | omega | (simp; done) | (simp; omega))) rfl ?_ | refine op_v (v_cmp rfl rfl rfl) rfl ?_)
            | (refine op_skip rfl rfl (by simp [undef]) rfl ?_)
          first | refine op_v (v_pickt rfl rfl) rfl ?_ | refine op_v (v_pickf rfl rfl) rfl ?_ | refine op_v (v_pickb rfl rfl rfl) rfl ?_
          refine op_v (v_move rfl) rfl ?_
          first
            | (refine op_want rfl rfl ?_
               refine op_v (v_move rfl) rfl ?_)
            | (refine op_skip rfl rfl (by simp [undef]) rfl ?_)
          first | refine op_v (v_pickt rfl rfl) rfl ?_ | refine op_v (v_pickf rfl rfl) rfl ?_ | refine op_v (v_pickb rfl rfl rfl) rfl ?_
          refine op_v (v_move rfl) rfl ?_
          first
            | (refine op_want rfl rfl ?_
               refine op_call pl62 rfl rfl (toy_does) Parts.none ?_
               rintro v45 I45 _ hI45 ⟨hg45, rfl⟩)
            | (refine op_skip rfl rfl (by simp [undef]) rfl ?_)
          first
            | (refine op_want rfl rfl ?_
               refine op_call pl53 rfl rfl ((Fun_does (by unfold InR; omega) (RepS.nil _))) Parts.none ?_
               rintro v46 I46 _ hI46 ⟨hv46, rfl⟩
               obtain ⟨a46, c46, rfl, _⟩ := hv46.shape)
            | (refine op_skip rfl rfl (by simp [undef]) rfl ?_)
          first
            | (refine op_want rfl rfl ?_
               refine o_buildSlice (xs := [(Go.Operand.tmp 46)]) Try.underlying22 bs24 rfl rfl rfl rfl rfl (fun b47 => ?_)
               refine OpsJ.freezeRow Del.here ?_
               rintro I47 a47 c47 hI47 hq hc47 hl47 hcells47
               cases hq)
            | (refine op_skip rfl rfl (by simp [undef]) rfl ?_)
          first
            | (refine op_want rfl rfl ?_
               refine op_call pl53 rfl rfl ((Fun_does (by unfold InR; omega) (RowT.repS rfl hcells47 (RowT.one (hv46.mono hI47)) hc47 (by omega)))) Parts.none ?_
               rintro v48 I48 _ hI48 ⟨hv48, rfl⟩
               change RepT I48 _ tD at hv48)
            | (refine op_skip rfl rfl (by simp [undef]) rfl ?_)
          first
            | (refine op_want rfl rfl ?_
               refine op_call pl63 rfl rfl ((GTerm_does (hg45.mono (by repeat (first | exact Imm.le_refl _ | assumption | refine Imm.le_trans ?_ (by assumption)))) hv48 (by omega))) Parts.none ?_
               rintro v49 I49 _ hI49 ⟨rfl, rfl⟩
               rw [toy_D])
            | (refine op_skip rfl rfl (by simp [undef]) rfl ?_)
          first
            | (refine op_want rfl rfl ?_
               first | refine op_v (v_cmpt rfl rfl rfl (by first | omega | (simp; done) | (simp; omega))) rfl ?_ | refine op_v (v_cmpf rfl rfl rfl (by first | omega | (simp; done) | (simp; omega))) rfl ?_ | refine op_v (v_cmp rfl rfl rfl) rfl ?_)
            | (refine op_skip rfl rfl (by simp [undef]) rfl ?_)
          first | refine op_v (v_pickt rfl rfl) rfl ?_ | refine op_v (v_pickf rfl rfl) rfl ?_ | refine op_v (v_pickb rfl rfl rfl) rfl ?_
          refine op_v (v_assign rfl) rfl ?_
          refine ops_nil ?_
          refine post_next ?_
          refine code_ret ?_
          refine post_ret (rs := [.tmp 0]) rfl (List.Perm.refl _) (.cons (.tmp rfl) .nil) (List.nil_sublist _) ?_
          exact ⟨rfl, rfl⟩
      · refine o_alloc z24 rfl rfl (fun b2 => ?_)
        refine ops_nil ?_
        refine e_next rfl (side_all (by repeat (first | exact Imm.le_refl _ | assumption | refine Imm.le_trans ?_ (by assumption))) (fun _ => (by intro x hx; first | exact hx | exact List.mem_cons_of_mem _ hx | exact List.mem_append_right _ hx | (simp only [List.mem_cons, List.not_mem_nil, or_false] at hx; repeat' (first | (subst hx; simp [cellsL]; done) | rcases hx with hx | hx)) | simp_all))) ?_
        refine e_eff rfl (by intro cs b hc; cases hc) (by intro c hc; cases hc) ?_
        refine o_buildSlice (xs := [(Go.Operand.tmp 8), (Go.Operand.tmp 11)]) Try.underlying22 bs24 rfl rfl rfl rfl rfl (fun b12 => ?_)
        refine OpsJ.freezeRow Del.here ?_
        rintro I12 a12 c12 hI12 hq hc12 hl12 hcells12
        cases hq
        refine ops_nil ?_
        refine e_next rfl (side_nil (by kernel_rfl)) ?_
        refine e_eff rfl (by intro cs b hc; cases hc) (by intro c hc; cases hc) ?_
        refine op_call pl53 rfl rfl ((Fun_does (by unfold InR; omega) (RowT.repS rfl hcells12 ((RowT.one (hv7.mono (by repeat (first | exact Imm.le_refl _ | assumption | refine Imm.le_trans ?_ (by assumption))))).app (RowT.one (hv11.mono hI12))) hc12 (by omega)))) Parts.none ?_
        rintro v13 I13 _ hI13 ⟨hv13, rfl⟩
        change RepT I13 _ tC at hv13
        obtain ⟨a13, c13, rfl, _⟩ := hv13.shape
        refine ops_nil ?_
        refine e_next rfl (side_nil (by kernel_rfl)) ?_
        refine e_eff rfl (by intro cs b hc; cases hc) (by intro c hc; cases hc) ?_
        refine o_store ty24 rfl rfl rfl rfl rfl (by repeat (first | exact Swap.here | apply Swap.there)) rfl ?_
        refine ops_nil ?_
        refine e_next_ (side_nil (by kernel_rfl)) ?_
        refine e_done ?_
        refine post_next ?_
        refine code_seq ?_
        refine code_draw (.fl 1 (.ef 0 (.ef 2 (.fl 3 (.fl 4 (.fl 5 (.ef 6 (.ef 7 .done)))))))) (fun _ => _) mixed (by kernel_rfl) (by kernel_rfl) (fun _ => (List.Sublist.refl _)) ?_
        refine e_float rfl rfl (fun hs_ => PF.mk rfl (v_load ty24 rfl (by repeat (first | exact Has.here | apply Has.there)) rfl) hs_) (by repeat (first | exact Imm.le_refl _ | assumption | refine Imm.le_trans ?_ (by assumption))) (by intro x hx; first | exact hx | exact List.mem_cons_of_mem _ hx | exact List.mem_append_right _ hx | (simp only [List.mem_cons, List.not_mem_nil, or_false] at hx; repeat' (first | (subst hx; simp [cellsL]; done) | rcases hx with hx | hx)) | simp_all) ?_
        refine e_eff rfl (by intro cs b hc; cases hc) (by intro c hc; cases hc) ?_
        refine op_call pl62 rfl rfl (toy_does) Parts.none ?_
        rintro v15 I15 _ hI15 ⟨hg15, rfl⟩
        refine ops_nil ?_
        refine e_next rfl (side_all (by repeat (first | exact Imm.le_refl _ | assumption | refine Imm.le_trans ?_ (by assumption))) (fun _ => (by intro x hx; first | exact hx | exact List.mem_cons_of_mem _ hx | exact List.mem_append_right _ hx | (simp only [List.mem_cons, List.not_mem_nil, or_false] at hx; repeat' (first | (subst hx; simp [cellsL]; done) | rcases hx with hx | hx)) | simp_all))) ?_
        refine e_eff rfl (by intro cs b hc; cases hc) (by intro c hc; cases hc) ?_
        refine op_call pl44 rfl rfl ((GWeight_does hg15 (hv13.mono (by repeat (first | exact Imm.le_refl _ | assumption | refine Imm.le_trans ?_ (by assumption)))) (by omega))) Parts.none ?_
        rintro v17 I17 _ hI17 ⟨rfl, rfl⟩
        rw [toy_C, if_pos rfl, toy_Cw]
        refine ops_nil ?_
        refine e_next rfl (side_nil (by kernel_rfl)) ?_
        refine e_float rfl rfl (fun hs_ => PF.mk rfl (v_move rfl) hs_) (by repeat (first | exact Imm.le_refl _ | assumption | refine Imm.le_trans ?_ (by assumption))) (by intro x hx; first | exact hx | exact List.mem_cons_of_mem _ hx | exact List.mem_append_right _ hx | (simp only [List.mem_cons, List.not_mem_nil, or_false] at hx; repeat' (first | (subst hx; simp [cellsL]; done) | rcases hx with hx | hx)) | simp_all) ?_
        refine e_float rfl rfl (fun hs_ => PF.mk rfl (v_extract rfl rfl) hs_) (by repeat (first | exact Imm.le_refl _ | assumption | refine Imm.le_trans ?_ (by assumption))) (by intro x hx; first | exact hx | exact List.mem_cons_of_mem _ hx | exact List.mem_append_right _ hx | (simp only [List.mem_cons, List.not_mem_nil, or_false] at hx; repeat' (first | (subst hx; simp [cellsL]; done) | rcases hx with hx | hx)) | simp_all) ?_
        refine e_float rfl rfl (fun hs_ => PF.mk rfl (v_extract rfl rfl) hs_) (by repeat (first | exact Imm.le_refl _ | assumption | refine Imm.le_trans ?_ (by assumption))) (by intro x hx; first | exact hx | exact List.mem_cons_of_mem _ hx | exact List.mem_append_right _ hx | (simp only [List.mem_cons, List.not_mem_nil, or_false] at hx; repeat' (first | (subst hx; simp [cellsL]; done) | rcases hx with hx | hx)) | simp_all) ?_
        refine e_eff rfl (by intro cs b hc; cases hc) (by intro c hc; cases hc) ?_
        refine op_v (v_assign rfl) rfl ?_
        refine ops_nil ?_
        refine e_next rfl (side_all (by repeat (first | exact Imm.le_refl _ | assumption | refine Imm.le_trans ?_ (by assumption))) (fun _ => (by intro x hx; first | exact hx | exact List.mem_cons_of_mem _ hx | exact List.mem_append_right _ hx | (simp only [List.mem_cons, List.not_mem_nil, or_false] at hx; repeat' (first | (subst hx; simp [cellsL]; done) | rcases hx with hx | hx)) | simp_all))) ?_
        refine e_eff rfl (by intro cs b hc; cases hc) (by intro c hc; cases hc) ?_
        refine op_v (v_assign rfl) rfl ?_
        refine ops_nil ?_
        refine e_next rfl (side_nil (by kernel_rfl)) ?_
        refine e_done ?_
        refine post_next ?_
        refine code_seq ?_
        refine code_region ?_
        refine op_call pl62 rfl rfl (toy_does) Parts.none ?_
        rintro v21 I21 _ hI21 ⟨hg21, rfl⟩
        refine op_call pl37 rfl rfl ((Find_does hg21)) Parts.none ?_
        rintro v22 I22 _ hI22 ⟨rfl, rfl⟩
        rw [toy_find]
        refine op_v (v_move rfl) rfl ?_
        refine op_v (v_extract rfl rfl) rfl ?_
        refine op_v (v_extract rfl rfl) rfl ?_
        refine op_v (v_assign rfl) rfl ?_
        refine op_v (v_assign rfl) rfl ?_
        refine ops_nil ?_
        refine post_next ?_
        refine code_seq ?_
        refine code_region ?_
        refine op_v (v_move rfl) rfl ?_
        first | refine op_v (v_cmpt rfl rfl rfl (by first | omega | (simp; done) | (simp; omega))) rfl ?_ | refine op_v (v_cmpf rfl rfl rfl (by first | omega | (simp; done) | (simp; omega))) rfl ?_ | refine op_v (v_cmp rfl rfl rfl) rfl ?_
        refine op_v (v_move rfl) rfl ?_
        first
          | (refine op_want rfl rfl ?_
             refine op_v (v_move rfl) rfl ?_)
          | (refine op_skip rfl rfl (by simp [undef]) rfl ?_)
        first
          | (refine op_want rfl rfl ?_
             first | refine op_v (v_cmpt rfl rfl rfl (by first | omega | (simp; done) | (simp; omega))) rfl ?_ | refine op_v (v_cmpf rfl rfl rfl (by first | omega | (simp; done) | (simp; omega))) rfl ?_ | refine op_v (v_cmp rfl rfl rfl) rfl ?_)
          | (refine op_skip rfl rfl (by simp [undef]) rfl ?_)
        first | refine op_v (v_pickt rfl rfl) rfl ?_ | refine op_v (v_pickf rfl rfl) rfl ?_ | refine op_v (v_pickb rfl rfl rfl) rfl ?_
        refine op_v (v_move rfl) rfl ?_
        first
          | (refine op_want rfl rfl ?_
             refine op_v (v_load ty24 rfl (by repeat (first | exact Has.here | apply Has.there)) rfl) rfl ?_)
          | (refine op_skip rfl rfl (by simp [undef]) rfl ?_)
        first
          | (refine op_want rfl rfl ?_
             refine op_call pl48 rfl rfl ((Counts_does (hv13.mono (by repeat (first | exact Imm.le_refl _ | assumption | refine Imm.le_trans ?_ (by assumption)))) (by omega))) Parts.none ?_
             rintro v33 I33 _ hI33 ⟨⟨cs33, hcs33, hC33⟩, rfl⟩
             obtain rfl := toy_counts hC33)
          | (refine op_skip rfl rfl (by simp [undef]) rfl ?_)
        first
          | (refine op_want rfl rfl ?_
             refine o_buildSlice (xs := [(Go.Operand.const (Go.Value.int Go.IntKind.i64 2))]) Try.underlying25 bs3 rfl rfl rfl rfl rfl (fun b34 => ?_)
             refine OpsJ.freezeRow Del.here ?_
             rintro I34 a34 c34 hI34 hq hc34 hl34 hcells34
             cases hq)
          | (refine op_skip rfl rfl (by simp [undef]) rfl ?_)
        first
          | (refine op_want rfl rfl ?_
             refine op_call pl31 rfl rfl ((Ints_does _ (hcs33.mono hI34) (RInts.lit (xs := [2]) hcells34 hc34 rfl))) Parts.none ?_
             rintro v35 I35 _ hI35 ⟨rfl, rfl⟩
             rw [show decide (([2] : List Int) = [2]) = true by decide])
          | (refine op_skip rfl rfl (by simp [undef]) rfl ?_)
        first | refine op_v (v_pickt rfl rfl) rfl ?_ | refine op_v (v_pickf rfl rfl) rfl ?_ | refine op_v (v_pickb rfl rfl rfl) rfl ?_
        refine op_v (v_move rfl) rfl ?_
        first
          | (refine op_want rfl rfl ?_
             refine op_v (v_move rfl) rfl ?_)
          | (refine op_skip rfl rfl (by simp [undef]) rfl ?_)
        first
          | (refine op_want rfl rfl ?_
             first | refine op_v (v_cmpt rfl rfl rfl (by first | omega | (simp; done) | (simp; omega))) rfl ?_ | refine op_v (v_cmpf rfl rfl rfl (by first | omega | (simp; done) | (simp; omega))) rfl ?_ | refine op_v (v_cmp rfl rfl rfl) rfl ?_)
          | (refine op_skip rfl rfl (by simp [undef]) rfl ?_)
        first | refine op_v (v_pickt rfl rfl) rfl ?_ | refine op_v (v_pickf rfl rfl) rfl ?_ | refine op_v (v_pickb rfl rfl rfl) rfl ?_
        refine op_v (v_move rfl) rfl ?_
        first
          | (refine op_want rfl rfl ?_
             refine op_v (v_move rfl) rfl ?_)
          | (refine op_skip rfl rfl (by simp [undef]) rfl ?_)
        first | refine op_v (v_pickt rfl rfl) rfl ?_ | refine op_v (v_pickf rfl rfl) rfl ?_ | refine op_v (v_pickb rfl rfl rfl) rfl ?_
        refine op_v (v_move rfl) rfl ?_
        first
          | (refine op_want rfl rfl ?_
             refine op_call pl62 rfl rfl (toy_does) Parts.none ?_
             rintro v45 I45 _ hI45 ⟨hg45, rfl⟩)
          | (refine op_skip rfl rfl (by simp [undef]) rfl ?_)
        first
          | (refine op_want rfl rfl ?_
             refine op_call pl53 rfl rfl ((Fun_does (by unfold InR; omega) (RepS.nil _))) Parts.none ?_
             rintro v46 I46 _ hI46 ⟨hv46, rfl⟩
             obtain ⟨a46, c46, rfl, _⟩ := hv46.shape)
          | (refine op_skip rfl rfl (by simp [undef]) rfl ?_)
        first
          | (refine op_want rfl rfl ?_
             refine o_buildSlice (xs := [(Go.Operand.tmp 46)]) Try.underlying22 bs24 rfl rfl rfl rfl rfl (fun b47 => ?_)
             refine OpsJ.freezeRow Del.here ?_
             rintro I47 a47 c47 hI47 hq hc47 hl47 hcells47
             cases hq)
          | (refine op_skip rfl rfl (by simp [undef]) rfl ?_)
        first
          | (refine op_want rfl rfl ?_
             refine op_call pl53 rfl rfl ((Fun_does (by unfold InR; omega) (RowT.repS rfl hcells47 (RowT.one (hv46.mono hI47)) hc47 (by omega)))) Parts.none ?_
             rintro v48 I48 _ hI48 ⟨hv48, rfl⟩
             change RepT I48 _ tD at hv48)
          | (refine op_skip rfl rfl (by simp [undef]) rfl ?_)
        first
          | (refine op_want rfl rfl ?_
             refine op_call pl63 rfl rfl ((GTerm_does (hg45.mono (by repeat (first | exact Imm.le_refl _ | assumption | refine Imm.le_trans ?_ (by assumption)))) hv48 (by omega))) Parts.none ?_
             rintro v49 I49 _ hI49 ⟨rfl, rfl⟩
             rw [toy_D])
          | (refine op_skip rfl rfl (by simp [undef]) rfl ?_)
        first
          | (refine op_want rfl rfl ?_
             first | refine op_v (v_cmpt rfl rfl rfl (by first | omega | (simp; done) | (simp; omega))) rfl ?_ | refine op_v (v_cmpf rfl rfl rfl (by first | omega | (simp; done) | (simp; omega))) rfl ?_ | refine op_v (v_cmp rfl rfl rfl) rfl ?_)
          | (refine op_skip rfl rfl (by simp [undef]) rfl ?_)
        first | refine op_v (v_pickt rfl rfl) rfl ?_ | refine op_v (v_pickf rfl rfl) rfl ?_ | refine op_v (v_pickb rfl rfl rfl) rfl ?_
        refine op_v (v_assign rfl) rfl ?_
        refine ops_nil ?_
        refine post_next ?_
        refine code_ret ?_
        refine post_ret (rs := [.tmp 0]) rfl (List.Perm.refl _) (.cons (.tmp rfl) .nil) (List.nil_sublist _) ?_
        exact ⟨rfl, rfl⟩
    · refine o_alloc z24 rfl rfl (fun b2 => ?_)
      refine ops_nil ?_
      refine e_next rfl (side_all (by repeat (first | exact Imm.le_refl _ | assumption | refine Imm.le_trans ?_ (by assumption))) (fun _ => (by intro x hx; first | exact hx | exact List.mem_cons_of_mem _ hx | exact List.mem_append_right _ hx | (simp only [List.mem_cons, List.not_mem_nil, or_false] at hx; repeat' (first | (subst hx; simp [cellsL]; done) | rcases hx with hx | hx)) | simp_all))) ?_
      refine e_eff rfl (by intro cs b hc; cases hc) (by intro c hc; cases hc) ?_
      refine op_call pl53 rfl rfl ((Fun_does (by unfold InR; omega) (RowT.repS rfl hcells10 (RowT.one (hv7.mono hI10)) hc10 (by omega)))) Parts.none ?_
      rintro v11 I11 _ hI11 ⟨hv11, rfl⟩
      obtain ⟨a11, c11, rfl, _⟩ := hv11.shape
      refine ops_nil ?_
      refine e_next rfl (side_all (by repeat (first | exact Imm.le_refl _ | assumption | refine Imm.le_trans ?_ (by assumption))) (fun _ => (by intro x hx; first | exact hx | exact List.mem_cons_of_mem _ hx | exact List.mem_append_right _ hx | (simp only [List.mem_cons, List.not_mem_nil, or_false] at hx; repeat' (first | (subst hx; simp [cellsL]; done) | rcases hx with hx | hx)) | simp_all))) ?_
      refine e_eff rfl (by intro cs b hc; cases hc) (by intro c hc; cases hc) ?_
      refine o_buildSlice (xs := [(Go.Operand.tmp 8), (Go.Operand.tmp 11)]) Try.underlying22 bs24 rfl rfl rfl rfl rfl (fun b12 => ?_)
      refine OpsJ.freezeRow Del.here ?_
      rintro I12 a12 c12 hI12 hq hc12 hl12 hcells12
      cases hq
      refine ops_nil ?_
      refine e_next rfl (side_nil (by kernel_rfl)) ?_
      refine e_eff rfl (by intro cs b hc; cases hc) (by intro c hc; cases hc) ?_
      refine op_call pl53 rfl rfl ((Fun_does (by unfold InR; omega) (RowT.repS rfl hcells12 ((RowT.one (hv7.mono (by repeat (first | exact Imm.le_refl _ | assumption | refine Imm.le_trans ?_ (by assumption))))).app (RowT.one (hv11.mono hI12))) hc12 (by omega)))) Parts.none ?_
      rintro v13 I13 _ hI13 ⟨hv13, rfl⟩
      change RepT I13 _ tC at hv13
      obtain ⟨a13, c13, rfl, _⟩ := hv13.shape
      refine ops_nil ?_
      refine e_next rfl (side_nil (by kernel_rfl)) ?_
      refine e_eff rfl (by intro cs b hc; cases hc) (by intro c hc; cases hc) ?_
      refine o_store ty24 rfl rfl rfl rfl rfl (by repeat (first | exact Swap.here | apply Swap.there)) rfl ?_
      refine ops_nil ?_
      refine e_next_ (side_nil (by kernel_rfl)) ?_
      refine e_done ?_
      refine post_next ?_
      refine code_seq ?_
      refine code_draw (.fl 1 (.ef 0 (.ef 2 (.fl 3 (.fl 4 (.fl 5 (.ef 6 (.ef 7 .done)))))))) (fun _ => _) mixed (by kernel_rfl) (by kernel_rfl) (fun _ => (List.Sublist.refl _)) ?_
      refine e_float rfl rfl (fun hs_ => PF.mk rfl (v_load ty24 rfl (by repeat (first | exact Has.here | apply Has.there)) rfl) hs_) (by repeat (first | exact Imm.le_refl _ | assumption | refine Imm.le_trans ?_ (by assumption))) (by intro x hx; first | exact hx | exact List.mem_cons_of_mem _ hx | exact List.mem_append_right _ hx | (simp only [List.mem_cons, List.not_mem_nil, or_false] at hx; repeat' (first | (subst hx; simp [cellsL]; done) | rcases hx with hx | hx)) | simp_all) ?_
      refine e_eff rfl (by intro cs b hc; cases hc) (by intro c hc; cases hc) ?_
      refine op_call pl62 rfl rfl (toy_does) Parts.none ?_
      rintro v15 I15 _ hI15 ⟨hg15, rfl⟩
      refine ops_nil ?_
      refine e_next rfl (side_all (by repeat (first | exact Imm.le_refl _ | assumption | refine Imm.le_trans ?_ (by assumption))) (fun _ => (by intro x hx; first | exact hx | exact List.mem_cons_of_mem _ hx | exact List.mem_append_right _ hx | (simp only [List.mem_cons, List.not_mem_nil, or_false] at hx; repeat' (first | (subst hx; simp [cellsL]; done) | rcases hx with hx | hx)) | simp_all))) ?_
      refine e_eff rfl (by intro cs b hc; cases hc) (by intro c hc; cases hc) ?_
      refine op_call pl44 rfl rfl ((GWeight_does hg15 (hv13.mono (by repeat (first | exact Imm.le_refl _ | assumption | refine Imm.le_trans ?_ (by assumption)))) (by omega))) Parts.none ?_
      rintro v17 I17 _ hI17 ⟨rfl, rfl⟩
      rw [toy_C, if_pos rfl, toy_Cw]
      refine ops_nil ?_
      refine e_next rfl (side_nil (by kernel_rfl)) ?_
      refine e_float rfl rfl (fun hs_ => PF.mk rfl (v_move rfl) hs_) (by repeat (first | exact Imm.le_refl _ | assumption | refine Imm.le_trans ?_ (by assumption))) (by intro x hx; first | exact hx | exact List.mem_cons_of_mem _ hx | exact List.mem_append_right _ hx | (simp only [List.mem_cons, List.not_mem_nil, or_false] at hx; repeat' (first | (subst hx; simp [cellsL]; done) | rcases hx with hx | hx)) | simp_all) ?_
      refine e_float rfl rfl (fun hs_ => PF.mk rfl (v_extract rfl rfl) hs_) (by repeat (first | exact Imm.le_refl _ | assumption | refine Imm.le_trans ?_ (by assumption))) (by intro x hx; first | exact hx | exact List.mem_cons_of_mem _ hx | exact List.mem_append_right _ hx | (simp only [List.mem_cons, List.not_mem_nil, or_false] at hx; repeat' (first | (subst hx; simp [cellsL]; done) | rcases hx with hx | hx)) | simp_all) ?_
      refine e_float rfl rfl (fun hs_ => PF.mk rfl (v_extract rfl rfl) hs_) (by repeat (first | exact Imm.le_refl _ | assumption | refine Imm.le_trans ?_ (by assumption))) (by intro x hx; first | exact hx | exact List.mem_cons_of_mem _ hx | exact List.mem_append_right _ hx | (simp only [List.mem_cons, List.not_mem_nil, or_false] at hx; repeat' (first | (subst hx; simp [cellsL]; done) | rcases hx with hx | hx)) | simp_all) ?_
      refine e_eff rfl (by intro cs b hc; cases hc) (by intro c hc; cases hc) ?_
      refine op_v (v_assign rfl) rfl ?_
      refine ops_nil ?_
      refine e_next rfl (side_all (by repeat (first | exact Imm.le_refl _ | assumption | refine Imm.le_trans ?_ (by assumption))) (fun _ => (by intro x hx; first | exact hx | exact List.mem_cons_of_mem _ hx | exact List.mem_append_right _ hx | (simp only [List.mem_cons, List.not_mem_nil, or_false] at hx; repeat' (first | (subst hx; simp [cellsL]; done) | rcases hx with hx | hx)) | simp_all))) ?_
      refine e_eff rfl (by intro cs b hc; cases hc) (by intro c hc; cases hc) ?_
      refine op_v (v_assign rfl) rfl ?_
      refine ops_nil ?_
      refine e_next rfl (side_nil (by kernel_rfl)) ?_
      refine e_done ?_
      refine post_next ?_
      refine code_seq ?_
      refine code_region ?_
      refine op_call pl62 rfl rfl (toy_does) Parts.none ?_
      rintro v21 I21 _ hI21 ⟨hg21, rfl⟩
      refine op_call pl37 rfl rfl ((Find_does hg21)) Parts.none ?_
      rintro v22 I22 _ hI22 ⟨rfl, rfl⟩
      rw [toy_find]
      refine op_v (v_move rfl) rfl ?_
      refine op_v (v_extract rfl rfl) rfl ?_
      refine op_v (v_extract rfl rfl) rfl ?_
      refine op_v (v_assign rfl) rfl ?_
      refine op_v (v_assign rfl) rfl ?_
      refine ops_nil ?_
      refine post_next ?_
      refine code_seq ?_
      refine code_region ?_
      refine op_v (v_move rfl) rfl ?_
      first | refine op_v (v_cmpt rfl rfl rfl (by first | omega | (simp; done) | (simp; omega))) rfl ?_ | refine op_v (v_cmpf rfl rfl rfl (by first | omega | (simp; done) | (simp; omega))) rfl ?_ | refine op_v (v_cmp rfl rfl rfl) rfl ?_
      refine op_v (v_move rfl) rfl ?_
      first
        | (refine op_want rfl rfl ?_
           refine op_v (v_move rfl) rfl ?_)
        | (refine op_skip rfl rfl (by simp [undef]) rfl ?_)
      first
        | (refine op_want rfl rfl ?_
           first | refine op_v (v_cmpt rfl rfl rfl (by first | omega | (simp; done) | (simp; omega))) rfl ?_ | refine op_v (v_cmpf rfl rfl rfl (by first | omega | (simp; done) | (simp; omega))) rfl ?_ | refine op_v (v_cmp rfl rfl rfl) rfl ?_)
        | (refine op_skip rfl rfl (by simp [undef]) rfl ?_)
      first | refine op_v (v_pickt rfl rfl) rfl ?_ | refine op_v (v_pickf rfl rfl) rfl ?_ | refine op_v (v_pickb rfl rfl rfl) rfl ?_
      refine op_v (v_move rfl) rfl ?_
      first
        | (refine op_want rfl rfl ?_
           refine op_v (v_load ty24 rfl (by repeat (first | exact Has.here | apply Has.there)) rfl) rfl ?_)
        | (refine op_skip rfl rfl (by simp [undef]) rfl ?_)
      first
        | (refine op_want rfl rfl ?_
           refine op_call pl48 rfl rfl ((Counts_does (hv13.mono (by repeat (first | exact Imm.le_refl _ | assumption | refine Imm.le_trans ?_ (by assumption)))) (by omega))) Parts.none ?_
           rintro v33 I33 _ hI33 ⟨⟨cs33, hcs33, hC33⟩, rfl⟩
           obtain rfl := toy_counts hC33)
        | (refine op_skip rfl rfl (by simp [undef]) rfl ?_)
      first
        | (refine op_want rfl rfl ?_
           refine o_buildSlice (xs := [(Go.Operand.const (Go.Value.int Go.IntKind.i64 2))]) Try.underlying25 bs3 rfl rfl rfl rfl rfl (fun b34 => ?_)
           refine OpsJ.freezeRow Del.here ?_
           rintro I34 a34 c34 hI34 hq hc34 hl34 hcells34
           cases hq)
        | (refine op_skip rfl rfl (by simp [undef]) rfl ?_)
      first
        | (refine op_want rfl rfl ?_
           refine op_call pl31 rfl rfl ((Ints_does _ (hcs33.mono hI34) (RInts.lit (xs := [2]) hcells34 hc34 rfl))) Parts.none ?_
           rintro v35 I35 _ hI35 ⟨rfl, rfl⟩
           rw [show decide (([2] : List Int) = [2]) = true by decide])
        | (refine op_skip rfl rfl (by simp [undef]) rfl ?_)
      first | refine op_v (v_pickt rfl rfl) rfl ?_ | refine op_v (v_pickf rfl rfl) rfl ?_ | refine op_v (v_pickb rfl rfl rfl) rfl ?_
      refine op_v (v_move rfl) rfl ?_
      first
        | (refine op_want rfl rfl ?_
           refine op_v (v_move rfl) rfl ?_)
        | (refine op_skip rfl rfl (by simp [undef]) rfl ?_)
      first
        | (refine op_want rfl rfl ?_
           first | refine op_v (v_cmpt rfl rfl rfl (by first | omega | (simp; done) | (simp; omega))) rfl ?_ | refine op_v (v_cmpf rfl rfl rfl (by first | omega | (simp; done) | (simp; omega))) rfl ?_ | refine op_v (v_cmp rfl rfl rfl) rfl ?_)
        | (refine op_skip rfl rfl (by simp [undef]) rfl ?_)
      first | refine op_v (v_pickt rfl rfl) rfl ?_ | refine op_v (v_pickf rfl rfl) rfl ?_ | refine op_v (v_pickb rfl rfl rfl) rfl ?_
      refine op_v (v_move rfl) rfl ?_
      first
        | (refine op_want rfl rfl ?_
           refine op_v (v_move rfl) rfl ?_)
        | (refine op_skip rfl rfl (by simp [undef]) rfl ?_)
      first | refine op_v (v_pickt rfl rfl) rfl ?_ | refine op_v (v_pickf rfl rfl) rfl ?_ | refine op_v (v_pickb rfl rfl rfl) rfl ?_
      refine op_v (v_move rfl) rfl ?_
      first
        | (refine op_want rfl rfl ?_
           refine op_call pl62 rfl rfl (toy_does) Parts.none ?_
           rintro v45 I45 _ hI45 ⟨hg45, rfl⟩)
        | (refine op_skip rfl rfl (by simp [undef]) rfl ?_)
      first
        | (refine op_want rfl rfl ?_
           refine op_call pl53 rfl rfl ((Fun_does (by unfold InR; omega) (RepS.nil _))) Parts.none ?_
           rintro v46 I46 _ hI46 ⟨hv46, rfl⟩
           obtain ⟨a46, c46, rfl, _⟩ := hv46.shape)
        | (refine op_skip rfl rfl (by simp [undef]) rfl ?_)
      first
        | (refine op_want rfl rfl ?_
           refine o_buildSlice (xs := [(Go.Operand.tmp 46)]) Try.underlying22 bs24 rfl rfl rfl rfl rfl (fun b47 => ?_)
           refine OpsJ.freezeRow Del.here ?_
           rintro I47 a47 c47 hI47 hq hc47 hl47 hcells47
           cases hq)
        | (refine op_skip rfl rfl (by simp [undef]) rfl ?_)
      first
        | (refine op_want rfl rfl ?_
           refine op_call pl53 rfl rfl ((Fun_does (by unfold InR; omega) (RowT.repS rfl hcells47 (RowT.one (hv46.mono hI47)) hc47 (by omega)))) Parts.none ?_
           rintro v48 I48 _ hI48 ⟨hv48, rfl⟩
           change RepT I48 _ tD at hv48)
        | (refine op_skip rfl rfl (by simp [undef]) rfl ?_)
      first
        | (refine op_want rfl rfl ?_
           refine op_call pl63 rfl rfl ((GTerm_does (hg45.mono (by repeat (first | exact Imm.le_refl _ | assumption | refine Imm.le_trans ?_ (by assumption)))) hv48 (by omega))) Parts.none ?_
           rintro v49 I49 _ hI49 ⟨rfl, rfl⟩
           rw [toy_D])
        | (refine op_skip rfl rfl (by simp [undef]) rfl ?_)
      first
        | (refine op_want rfl rfl ?_
           first | refine op_v (v_cmpt rfl rfl rfl (by first | omega | (simp; done) | (simp; omega))) rfl ?_ | refine op_v (v_cmpf rfl rfl rfl (by first | omega | (simp; done) | (simp; omega))) rfl ?_ | refine op_v (v_cmp rfl rfl rfl) rfl ?_)
        | (refine op_skip rfl rfl (by simp [undef]) rfl ?_)
      first | refine op_v (v_pickt rfl rfl) rfl ?_ | refine op_v (v_pickf rfl rfl) rfl ?_ | refine op_v (v_pickb rfl rfl rfl) rfl ?_
      refine op_v (v_assign rfl) rfl ?_
      refine ops_nil ?_
      refine post_next ?_
      refine code_ret ?_
      refine post_ret (rs := [.tmp 0]) rfl (List.Perm.refl _) (.cons (.tmp rfl) .nil) (List.nil_sublist _) ?_
      exact ⟨rfl, rfl⟩
  · refine o_alloc z24 rfl rfl (fun b2 => ?_)
    refine ops_nil ?_
    refine e_next rfl (side_all (by repeat (first | exact Imm.le_refl _ | assumption | refine Imm.le_trans ?_ (by assumption))) (fun _ => (by intro x hx; first | exact hx | exact List.mem_cons_of_mem _ hx | exact List.mem_append_right _ hx | (simp only [List.mem_cons, List.not_mem_nil, or_false] at hx; repeat' (first | (subst hx; simp [cellsL]; done) | rcases hx with hx | hx)) | simp_all))) ?_
    refine e_eff rfl (by intro cs b hc; cases hc) (by intro c hc; cases hc) ?_
    refine o_buildSlice (xs := [(Go.Operand.tmp 9)]) Try.underlying22 bs24 rfl rfl rfl rfl rfl (fun b10 => ?_)
    refine OpsJ.freezeRow Del.here ?_
    rintro I10 a10 c10 hI10 hq hc10 hl10 hcells10
    cases hq
    refine ops_nil ?_
    refine e_next rfl (side_all (by repeat (first | exact Imm.le_refl _ | assumption | refine Imm.le_trans ?_ (by assumption))) (fun _ => (by intro x hx; first | exact hx | exact List.mem_cons_of_mem _ hx | exact List.mem_append_right _ hx | (simp only [List.mem_cons, List.not_mem_nil, or_false] at hx; repeat' (first | (subst hx; simp [cellsL]; done) | rcases hx with hx | hx)) | simp_all))) ?_
    refine e_eff rfl (by intro cs b hc; cases hc) (by intro c hc; cases hc) ?_
    refine op_call pl53 rfl rfl ((Fun_does (by unfold InR; omega) (RowT.repS rfl hcells10 (RowT.one (hv7.mono hI10)) hc10 (by omega)))) Parts.none ?_
    rintro v11 I11 _ hI11 ⟨hv11, rfl⟩
    obtain ⟨a11, c11, rfl, _⟩ := hv11.shape
    refine ops_nil ?_
    refine e_next rfl (side_all (by repeat (first | exact Imm.le_refl _ | assumption | refine Imm.le_trans ?_ (by assumption))) (fun _ => (by intro x hx; first | exact hx | exact List.mem_cons_of_mem _ hx | exact List.mem_append_right _ hx | (simp only [List.mem_cons, List.not_mem_nil, or_false] at hx; repeat' (first | (subst hx; simp [cellsL]; done) | rcases hx with hx | hx)) | simp_all))) ?_
    refine e_eff rfl (by intro cs b hc; cases hc) (by intro c hc; cases hc) ?_
    refine o_buildSlice (xs := [(Go.Operand.tmp 8), (Go.Operand.tmp 11)]) Try.underlying22 bs24 rfl rfl rfl rfl rfl (fun b12 => ?_)
    refine OpsJ.freezeRow Del.here ?_
    rintro I12 a12 c12 hI12 hq hc12 hl12 hcells12
    cases hq
    refine ops_nil ?_
    refine e_next rfl (side_nil (by kernel_rfl)) ?_
    refine e_eff rfl (by intro cs b hc; cases hc) (by intro c hc; cases hc) ?_
    refine op_call pl53 rfl rfl ((Fun_does (by unfold InR; omega) (RowT.repS rfl hcells12 ((RowT.one (hv7.mono (by repeat (first | exact Imm.le_refl _ | assumption | refine Imm.le_trans ?_ (by assumption))))).app (RowT.one (hv11.mono hI12))) hc12 (by omega)))) Parts.none ?_
    rintro v13 I13 _ hI13 ⟨hv13, rfl⟩
    change RepT I13 _ tC at hv13
    obtain ⟨a13, c13, rfl, _⟩ := hv13.shape
    refine ops_nil ?_
    refine e_next rfl (side_nil (by kernel_rfl)) ?_
    refine e_eff rfl (by intro cs b hc; cases hc) (by intro c hc; cases hc) ?_
    refine o_store ty24 rfl rfl rfl rfl rfl (by repeat (first | exact Swap.here | apply Swap.there)) rfl ?_
    refine ops_nil ?_
    refine e_next_ (side_nil (by kernel_rfl)) ?_
    refine e_done ?_
    refine post_next ?_
    refine code_seq ?_
    refine code_draw (.fl 1 (.ef 0 (.ef 2 (.fl 3 (.fl 4 (.fl 5 (.ef 6 (.ef 7 .done)))))))) (fun _ => _) mixed (by kernel_rfl) (by kernel_rfl) (fun _ => (List.Sublist.refl _)) ?_
    refine e_float rfl rfl (fun hs_ => PF.mk rfl (v_load ty24 rfl (by repeat (first | exact Has.here | apply Has.there)) rfl) hs_) (by repeat (first | exact Imm.le_refl _ | assumption | refine Imm.le_trans ?_ (by assumption))) (by intro x hx; first | exact hx | exact List.mem_cons_of_mem _ hx | exact List.mem_append_right _ hx | (simp only [List.mem_cons, List.not_mem_nil, or_false] at hx; repeat' (first | (subst hx; simp [cellsL]; done) | rcases hx with hx | hx)) | simp_all) ?_
    refine e_eff rfl (by intro cs b hc; cases hc) (by intro c hc; cases hc) ?_
    refine op_call pl62 rfl rfl (toy_does) Parts.none ?_
    rintro v15 I15 _ hI15 ⟨hg15, rfl⟩
    refine ops_nil ?_
    refine e_next rfl (side_all (by repeat (first | exact Imm.le_refl _ | assumption | refine Imm.le_trans ?_ (by assumption))) (fun _ => (by intro x hx; first | exact hx | exact List.mem_cons_of_mem _ hx | exact List.mem_append_right _ hx | (simp only [List.mem_cons, List.not_mem_nil, or_false] at hx; repeat' (first | (subst hx; simp [cellsL]; done) | rcases hx with hx | hx)) | simp_all))) ?_
    refine e_eff rfl (by intro cs b hc; cases hc) (by intro c hc; cases hc) ?_
    refine op_call pl44 rfl rfl ((GWeight_does hg15 (hv13.mono (by repeat (first | exact Imm.le_refl _ | assumption | refine Imm.le_trans ?_ (by assumption)))) (by omega))) Parts.none ?_
    rintro v17 I17 _ hI17 ⟨rfl, rfl⟩
    rw [toy_C, if_pos rfl, toy_Cw]
    refine ops_nil ?_
    refine e_next rfl (side_nil (by kernel_rfl)) ?_
    refine e_float rfl rfl (fun hs_ => PF.mk rfl (v_move rfl) hs_) (by repeat (first | exact Imm.le_refl _ | assumption | refine Imm.le_trans ?_ (by assumption))) (by intro x hx; first | exact hx | exact List.mem_cons_of_mem _ hx | exact List.mem_append_right _ hx | (simp only [List.mem_cons, List.not_mem_nil, or_false] at hx; repeat' (first | (subst hx; simp [cellsL]; done) | rcases hx with hx | hx)) | simp_all) ?_
    refine e_float rfl rfl (fun hs_ => PF.mk rfl (v_extract rfl rfl) hs_) (by repeat (first | exact Imm.le_refl _ | assumption | refine Imm.le_trans ?_ (by assumption))) (by intro x hx; first | exact hx | exact List.mem_cons_of_mem _ hx | exact List.mem_append_right _ hx | (simp only [List.mem_cons, List.not_mem_nil, or_false] at hx; repeat' (first | (subst hx; simp [cellsL]; done) | rcases hx with hx | hx)) | simp_all) ?_
    refine e_float rfl rfl (fun hs_ => PF.mk rfl (v_extract rfl rfl) hs_) (by repeat (first | exact Imm.le_refl _ | assumption | refine Imm.le_trans ?_ (by assumption))) (by intro x hx; first | exact hx | exact List.mem_cons_of_mem _ hx | exact List.mem_append_right _ hx | (simp only [List.mem_cons, List.not_mem_nil, or_false] at hx; repeat' (first | (subst hx; simp [cellsL]; done) | rcases hx with hx | hx)) | simp_all) ?_
    refine e_eff rfl (by intro cs b hc; cases hc) (by intro c hc; cases hc) ?_
    refine op_v (v_assign rfl) rfl ?_
    refine ops_nil ?_
    refine e_next rfl (side_all (by repeat (first | exact Imm.le_refl _ | assumption | refine Imm.le_trans ?_ (by assumption))) (fun _ => (by intro x hx; first | exact hx | exact List.mem_cons_of_mem _ hx | exact List.mem_append_right _ hx | (simp only [List.mem_cons, List.not_mem_nil, or_false] at hx; repeat' (first | (subst hx; simp [cellsL]; done) | rcases hx with hx | hx)) | simp_all))) ?_
    refine e_eff rfl (by intro cs b hc; cases hc) (by intro c hc; cases hc) ?_
    refine op_v (v_assign rfl) rfl ?_
    refine ops_nil ?_
    refine e_next rfl (side_nil (by kernel_rfl)) ?_
    refine e_done ?_
    refine post_next ?_
    refine code_seq ?_
    refine code_region ?_
    refine op_call pl62 rfl rfl (toy_does) Parts.none ?_
    rintro v21 I21 _ hI21 ⟨hg21, rfl⟩
    refine op_call pl37 rfl rfl ((Find_does hg21)) Parts.none ?_
    rintro v22 I22 _ hI22 ⟨rfl, rfl⟩
    rw [toy_find]
    refine op_v (v_move rfl) rfl ?_
    refine op_v (v_extract rfl rfl) rfl ?_
    refine op_v (v_extract rfl rfl) rfl ?_
    refine op_v (v_assign rfl) rfl ?_
    refine op_v (v_assign rfl) rfl ?_
    refine ops_nil ?_
    refine post_next ?_
    refine code_seq ?_
    refine code_region ?_
    refine op_v (v_move rfl) rfl ?_
    first | refine op_v (v_cmpt rfl rfl rfl (by first | omega | (simp; done) | (simp; omega))) rfl ?_ | refine op_v (v_cmpf rfl rfl rfl (by first | omega | (simp; done) | (simp; omega))) rfl ?_ | refine op_v (v_cmp rfl rfl rfl) rfl ?_
    refine op_v (v_move rfl) rfl ?_
    first
      | (refine op_want rfl rfl ?_
         refine op_v (v_move rfl) rfl ?_)
      | (refine op_skip rfl rfl (by simp [undef]) rfl ?_)
    first
      | (refine op_want rfl rfl ?_
         first | refine op_v (v_cmpt rfl rfl rfl (by first | omega | (simp; done) | (simp; omega))) rfl ?_ | refine op_v (v_cmpf rfl rfl rfl (by first | omega | (simp; done) | (simp; omega))) rfl ?_ | refine op_v (v_cmp rfl rfl rfl) rfl ?_)
      | (refine op_skip rfl rfl (by simp [undef]) rfl ?_)
    first | refine op_v (v_pickt rfl rfl) rfl ?_ | refine op_v (v_pickf rfl rfl) rfl ?_ | refine op_v (v_pickb rfl rfl rfl) rfl ?_
    refine op_v (v_move rfl) rfl ?_
    first
      | (refine op_want rfl rfl ?_
         refine op_v (v_load ty24 rfl (by repeat (first | exact Has.here | apply Has.there)) rfl) rfl ?_)
      | (refine op_skip rfl rfl (by simp [undef]) rfl ?_)
    first
      | (refine op_want rfl rfl ?_
         refine op_call pl48 rfl rfl ((Counts_does (hv13.mono (by repeat (first | exact Imm.le_refl _ | assumption | refine Imm.le_trans ?_ (by assumption)))) (by omega))) Parts.none ?_
         rintro v33 I33 _ hI33 ⟨⟨cs33, hcs33, hC33⟩, rfl⟩
         obtain rfl := toy_counts hC33)
      | (refine op_skip rfl rfl (by simp [undef]) rfl ?_)
    first
      | (refine op_want rfl rfl ?_
         refine o_buildSlice (xs := [(Go.Operand.const (Go.Value.int Go.IntKind.i64 2))]) Try.underlying25 bs3 rfl rfl rfl rfl rfl (fun b34 => ?_)
         refine OpsJ.freezeRow Del.here ?_
         rintro I34 a34 c34 hI34 hq hc34 hl34 hcells34
         cases hq)
      | (refine op_skip rfl rfl (by simp [undef]) rfl ?_)
    first
      | (refine op_want rfl rfl ?_
         refine op_call pl31 rfl rfl ((Ints_does _ (hcs33.mono hI34) (RInts.lit (xs := [2]) hcells34 hc34 rfl))) Parts.none ?_
         rintro v35 I35 _ hI35 ⟨rfl, rfl⟩
         rw [show decide (([2] : List Int) = [2]) = true by decide])
      | (refine op_skip rfl rfl (by simp [undef]) rfl ?_)
    first | refine op_v (v_pickt rfl rfl) rfl ?_ | refine op_v (v_pickf rfl rfl) rfl ?_ | refine op_v (v_pickb rfl rfl rfl) rfl ?_
    refine op_v (v_move rfl) rfl ?_
    first
      | (refine op_want rfl rfl ?_
         refine op_v (v_move rfl) rfl ?_)
      | (refine op_skip rfl rfl (by simp [undef]) rfl ?_)
    first
      | (refine op_want rfl rfl ?_
         first | refine op_v (v_cmpt rfl rfl rfl (by first | omega | (simp; done) | (simp; omega))) rfl ?_ | refine op_v (v_cmpf rfl rfl rfl (by first | omega | (simp; done) | (simp; omega))) rfl ?_ | refine op_v (v_cmp rfl rfl rfl) rfl ?_)
      | (refine op_skip rfl rfl (by simp [undef]) rfl ?_)
    first | refine op_v (v_pickt rfl rfl) rfl ?_ | refine op_v (v_pickf rfl rfl) rfl ?_ | refine op_v (v_pickb rfl rfl rfl) rfl ?_
    refine op_v (v_move rfl) rfl ?_
    first
      | (refine op_want rfl rfl ?_
         refine op_v (v_move rfl) rfl ?_)
      | (refine op_skip rfl rfl (by simp [undef]) rfl ?_)
    first | refine op_v (v_pickt rfl rfl) rfl ?_ | refine op_v (v_pickf rfl rfl) rfl ?_ | refine op_v (v_pickb rfl rfl rfl) rfl ?_
    refine op_v (v_move rfl) rfl ?_
    first
      | (refine op_want rfl rfl ?_
         refine op_call pl62 rfl rfl (toy_does) Parts.none ?_
         rintro v45 I45 _ hI45 ⟨hg45, rfl⟩)
      | (refine op_skip rfl rfl (by simp [undef]) rfl ?_)
    first
      | (refine op_want rfl rfl ?_
         refine op_call pl53 rfl rfl ((Fun_does (by unfold InR; omega) (RepS.nil _))) Parts.none ?_
         rintro v46 I46 _ hI46 ⟨hv46, rfl⟩
         obtain ⟨a46, c46, rfl, _⟩ := hv46.shape)
      | (refine op_skip rfl rfl (by simp [undef]) rfl ?_)
    first
      | (refine op_want rfl rfl ?_
         refine o_buildSlice (xs := [(Go.Operand.tmp 46)]) Try.underlying22 bs24 rfl rfl rfl rfl rfl (fun b47 => ?_)
         refine OpsJ.freezeRow Del.here ?_
         rintro I47 a47 c47 hI47 hq hc47 hl47 hcells47
         cases hq)
      | (refine op_skip rfl rfl (by simp [undef]) rfl ?_)
    first
      | (refine op_want rfl rfl ?_
         refine op_call pl53 rfl rfl ((Fun_does (by unfold InR; omega) (RowT.repS rfl hcells47 (RowT.one (hv46.mono hI47)) hc47 (by omega)))) Parts.none ?_
         rintro v48 I48 _ hI48 ⟨hv48, rfl⟩
         change RepT I48 _ tD at hv48)
      | (refine op_skip rfl rfl (by simp [undef]) rfl ?_)
    first
      | (refine op_want rfl rfl ?_
         refine op_call pl63 rfl rfl ((GTerm_does (hg45.mono (by repeat (first | exact Imm.le_refl _ | assumption | refine Imm.le_trans ?_ (by assumption)))) hv48 (by omega))) Parts.none ?_
         rintro v49 I49 _ hI49 ⟨rfl, rfl⟩
         rw [toy_D])
      | (refine op_skip rfl rfl (by simp [undef]) rfl ?_)
    first
      | (refine op_want rfl rfl ?_
         first | refine op_v (v_cmpt rfl rfl rfl (by first | omega | (simp; done) | (simp; omega))) rfl ?_ | refine op_v (v_cmpf rfl rfl rfl (by first | omega | (simp; done) | (simp; omega))) rfl ?_ | refine op_v (v_cmp rfl rfl rfl) rfl ?_)
      | (refine op_skip rfl rfl (by simp [undef]) rfl ?_)
    first | refine op_v (v_pickt rfl rfl) rfl ?_ | refine op_v (v_pickf rfl rfl) rfl ?_ | refine op_v (v_pickb rfl rfl rfl) rfl ?_
    refine op_v (v_assign rfl) rfl ?_
    refine ops_nil ?_
    refine post_next ?_
    refine code_ret ?_
    refine post_ret (rs := [.tmp 0]) rfl (List.Perm.refl _) (.cons (.tmp rfl) .nil) (List.nil_sublist _) ?_
    exact ⟨rfl, rfl⟩

end Go.Proofs.Ytdcklngleglbbaa
