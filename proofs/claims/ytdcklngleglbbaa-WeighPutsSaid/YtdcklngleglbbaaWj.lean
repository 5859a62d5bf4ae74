/- Walks: another part put at a place, by definition. -/
import Derived.Test.YtdcklngleglbbaaWi
set_option linter.unusedVariables false
set_option linter.unusedSimpArgs false
namespace Go.Proofs.Ytdcklngleglbbaa
open Go Lg

/-- another part at a place that is there -/
def putT : T → List Int → T → T
  | _, [], u => u
  | t, x :: r, u => .mk t.head (t.args.set x.toNat (putT (t.args.getD x.toNat zeroT) r u))

theorem atT_cons {t : T} {x : Int} {r : List Int} (h : (atT t (x :: r)).isSome = true) : ∃ i : Nat, x = i ∧ ∃ hi : i < t.args.length, (atT t.args[i] r).isSome = true := by
  unfold atT at h
  by_cases hh : 0 ≤ x ∧ x.toNat < t.args.length
  · rw [dif_pos hh] at h
    obtain ⟨i, rfl⟩ := Int.eq_ofNat_of_zero_le hh.1
    exact ⟨i, rfl, hh.2, h⟩
  · rw [dif_neg hh] at h; cases h

theorem put_does : ∀ (p : List Int) (t u : T), (atT t p).isSome = true → ∀ (I : Imm) (v vp vu : Value), RepT I v t → RInts I vp p → RepT I vu u →
    Does Try.prog 52 [v, vp, vu] I [] (fun v I' δ' => RepT I' v (putT t p u) ∧ δ' = []) := by
  intro p
  induction p with
  | nil =>
    intro t u hsome I v vp vu hv hp hu
    obtain ⟨ad, c, rfl, hr0⟩ := hv.shape
    obtain ⟨ud, uc, rfl, hur⟩ := hu.shape
    obtain ⟨pd, e, _, hpc, hpb, hpat, hpr⟩ := hp
    refine Does.intro Try.func52 rfl Try.ntmps52 rfl fun w0 => ?_
    refine code_seq ?_
    refine code_region ?_
    refine o_box rfl rfl rfl (fun b3 => ?_)
    refine o_box rfl rfl rfl (fun b5 => ?_)
    refine o_alloc z24 rfl rfl (fun b6 => ?_)
    refine ops_nil ?_
    refine post_next ?_
    refine code_seq ?_
    refine code_seq ?_
    refine code_region ?_
    refine op_v (v_move rfl) rfl ?_
    refine op_v (v_len Try.underlying25 rfl) rfl ?_
    first | refine op_v (v_cmpt rfl rfl rfl (by first | omega | (simp; done) | (simp; omega))) rfl ?_ | refine op_v (v_cmpf rfl rfl rfl (by first | omega | (simp; done) | (simp; omega))) rfl ?_ | refine op_v (v_cmp rfl rfl rfl) rfl ?_
    refine ops_nil ?_
    refine post_next ?_
    refine code_cond_t rfl ?_
    refine code_seq ?_
    refine code_region ?_
    refine op_v (v_load ty24 rfl (by first | exact Has.here | exact Has.there Has.here | exact Has.there (Has.there Has.here) | exact Has.there (Has.there (Has.there Has.here)) | exact Has.there (Has.there (Has.there (Has.there Has.here))) | exact Has.there (Has.there (Has.there (Has.there (Has.there Has.here)))) | exact Has.there (Has.there (Has.there (Has.there (Has.there (Has.there Has.here)))))) rfl) rfl ?_
    refine o_store ty24 rfl rfl rfl rfl rfl (by first | exact Swap.here | exact Swap.there Swap.here | exact Swap.there (Swap.there Swap.here) | exact Swap.there (Swap.there (Swap.there Swap.here)) | exact Swap.there (Swap.there (Swap.there (Swap.there Swap.here))) | exact Swap.there (Swap.there (Swap.there (Swap.there (Swap.there Swap.here))))) rfl ?_
    refine ops_nil ?_
    refine post_next ?_
    refine code_ret ?_
    refine post_ret_then ?_
    refine post_ret (rs := [.cell 6 24]) rfl (List.Perm.refl _) (.cons (.cell rfl ty24 (by first | exact Has.here | exact Has.there Has.here | exact Has.there (Has.there Has.here) | exact Has.there (Has.there (Has.there Has.here)) | exact Has.there (Has.there (Has.there (Has.there Has.here))) | exact Has.there (Has.there (Has.there (Has.there (Has.there Has.here)))) | exact Has.there (Has.there (Has.there (Has.there (Has.there (Has.there Has.here)))))) rfl) .nil) (List.nil_sublist _) ?_
    exact ⟨hu, rfl⟩
  | cons x r ih =>
    intro t u hsome I v vp vu hv hp hu
    obtain ⟨h, ts⟩ := t
    obtain ⟨ad, c, ss, rfl, hr, hc, hb, hat, hsub⟩ := hv.elim
    obtain ⟨ud, uc, rfl, hur⟩ := hu.shape
    obtain ⟨pd, e, _, hpc, hpb, hpat, hpr⟩ := hp
    have hs0 : pd.isSome = true := ints_some hpat 0 (by simp)
    obtain ⟨i, rfl, hxl, hsome'⟩ := atT_cons hsome
    simp only [T.args] at hxl hsome'
    have hput : putT (.mk h ts) ((i : Int) :: r) u = .mk h (ts.set i (putT ts[i] r u)) := by simp [putT, T.args, T.head, hxl]
    rw [hput]
    generalize hw : ts.set i (putT ts[i] r u) = us
    have husl : us.length = ts.length := by rw [← hw]; simp
    refine Does.intro Try.func52 rfl Try.ntmps52 rfl fun w0 => ?_
    refine code_seq ?_
    refine code_region ?_
    refine o_box rfl rfl rfl (fun b3 => ?_)
    refine o_box rfl rfl rfl (fun b5 => ?_)
    refine o_alloc z24 rfl rfl (fun b6 => ?_)
    refine ops_nil ?_
    refine post_next ?_
    refine code_seq ?_
    refine code_seq ?_
    refine code_region ?_
    refine op_v (v_move rfl) rfl ?_
    refine op_v (v_len Try.underlying25 rfl) rfl ?_
    first | refine op_v (v_cmpt rfl rfl rfl (by first | omega | (simp; done) | (simp; omega))) rfl ?_ | refine op_v (v_cmpf rfl rfl rfl (by first | omega | (simp; done) | (simp; omega))) rfl ?_ | refine op_v (v_cmp rfl rfl rfl) rfl ?_
    refine ops_nil ?_
    refine post_next ?_
    refine code_cond_f rfl ?_
    refine code_skip ?_
    refine post_next ?_
    refine code_seq ?_
    refine code_region ?_
    first | refine op_v (v_fieldB 0 Try.underlying24 rfl rfl fz3 rfl) rfl ?_ | refine op_v (v_fieldI 0 Try.underlying24 rfl rfl fz3 rfl (by assumption)) rfl ?_ | refine op_v (v_field Try.underlying24 rfl fz3 rfl rfl) rfl ?_
    refine op_v (v_load ty3 rfl (by first | exact Has.here | exact Has.there Has.here | exact Has.there (Has.there Has.here) | exact Has.there (Has.there (Has.there Has.here)) | exact Has.there (Has.there (Has.there (Has.there Has.here))) | exact Has.there (Has.there (Has.there (Has.there (Has.there Has.here)))) | exact Has.there (Has.there (Has.there (Has.there (Has.there (Has.there Has.here)))))) rfl) rfl ?_
    refine op_v (v_build bl24 rfl rfl) rfl ?_
    refine o_alloc z24 rfl rfl (fun b7 => ?_)
    refine o_store ty24 rfl rfl rfl rfl rfl (by first | exact Swap.here | exact Swap.there Swap.here | exact Swap.there (Swap.there Swap.here) | exact Swap.there (Swap.there (Swap.there Swap.here)) | exact Swap.there (Swap.there (Swap.there (Swap.there Swap.here))) | exact Swap.there (Swap.there (Swap.there (Swap.there (Swap.there Swap.here))))) rfl ?_
    refine ops_nil ?_
    refine post_next ?_
    refine code_seq ?_
    refine code_seq ?_
    refine code_region ?_
    refine op_v (v_assign rfl) rfl ?_
    refine ops_nil ?_
    refine post_next ?_
    refine code_block ?_
    refine CodeJ.view (View.nilRow 24 2) ?_
    refine code_loop (fun m σ' I' δ' => ∃ (k : Nat) (ar : Option Addr) (cr : Nat) (xs : List Value), m = ts.length - k ∧ k ≤ ts.length ∧ σ' = [(1, .slice pd ((i : Int) :: r).length e), (3, .pointer (some ⟨b3, 0, none⟩)), (5, .pointer (some ⟨b5, 0, none⟩)), (6, .pointer (some ⟨b6, 0, none⟩)), (7, .pointer (some ⟨b7, 0, none⟩)), (8, .int .i64 k)] ∧ I.le I' ∧ δ' = [.row (.slice ar k cr) 24 2 k xs, .box b7 24 [.int .i64 h, .slice ar k cr], .box b6 24 [.int .i64 0, .slice none 0 0], .box b5 24 [.int .i64 u.head, .slice ud u.args.length uc], .box b3 24 [.int .i64 h, .slice ad ts.length c]] ∧ RowT I' xs (us.take k)) ts.length [(1, .slice pd ((i : Int) :: r).length e), (3, .pointer (some ⟨b3, 0, none⟩)), (5, .pointer (some ⟨b5, 0, none⟩)), (6, .pointer (some ⟨b6, 0, none⟩)), (7, .pointer (some ⟨b7, 0, none⟩)), (8, .int .i64 (0 : Nat))] ⟨0, none, 0, [], rfl, Nat.zero_le _, rfl, Imm.le_refl _, rfl, RowT.nil _⟩ ⟨rfl, rfl, rfl, rfl, rfl, rfl, trivial⟩ ?_
    rintro m _ I0 _ ⟨k, ar, cr, xs, rfl, hk, rfl, hI0, rfl, hrow⟩
    refine code_seq ?_
    refine code_seq ?_
    refine code_region ?_
    refine op_v (v_move rfl) rfl ?_
    first | refine op_v (v_fieldB 1 Try.underlying24 rfl rfl fz22 rfl) rfl ?_ | refine op_v (v_fieldI 1 Try.underlying24 rfl rfl fz22 rfl (by assumption)) rfl ?_ | refine op_v (v_field Try.underlying24 rfl fz22 rfl rfl) rfl ?_
    refine op_v (v_load ty22 rfl (by first | exact Has.here | exact Has.there Has.here | exact Has.there (Has.there Has.here) | exact Has.there (Has.there (Has.there Has.here)) | exact Has.there (Has.there (Has.there (Has.there Has.here))) | exact Has.there (Has.there (Has.there (Has.there (Has.there Has.here)))) | exact Has.there (Has.there (Has.there (Has.there (Has.there (Has.there Has.here)))))) rfl) rfl ?_
    refine op_v (v_len Try.underlying22 rfl) rfl ?_
    first | refine op_v (v_cmpt rfl rfl rfl (by first | omega | (simp; done) | (simp; omega))) rfl ?_ | refine op_v (v_cmpf rfl rfl rfl (by first | omega | (simp; done) | (simp; omega))) rfl ?_ | refine op_v (v_cmp rfl rfl rfl) rfl ?_
    refine ops_nil ?_
    refine post_next ?_
    refine code_cond rfl (fun hc1 => ?_) (fun hc1 => ?_)
    · have hlt : k < ts.length := by simpa using hc1
      have hs1 := (hat k hlt).isSome
      refine code_skip ?_
      refine post_next ?_
      refine code_seq ?_
      refine code_block ?_
      refine code_seq ?_
      refine code_region ?_
      refine op_v (v_move rfl) rfl ?_
      refine op_v (v_move rfl) rfl ?_
      first | refine op_v (v_index Try.underlying25 sz3 rfl rfl (by omega) (by assumption)) rfl ?_ | refine op_v (v_indexI Try.underlying25 sz3 rfl rfl (by first | omega | (simp; done) | (simp; omega)) (by first | omega | (simp; done) | (simp; omega)) (by assumption)) rfl ?_
      first | refine op_v (v_loadI0 ty3 ((ints_at hpat 0 (by simp)).mono hI0) rfl rfl rfl) rfl ?_ | refine op_v (v_loadI ty3 ((ints_at hpat 0 (by simp)).mono hI0) rfl rfl rfl) rfl ?_
      first | refine op_v (v_cmpt rfl rfl rfl (by first | omega | (simp; done) | (simp; omega))) rfl ?_ | refine op_v (v_cmpf rfl rfl rfl (by first | omega | (simp; done) | (simp; omega))) rfl ?_ | refine op_v (v_cmp rfl rfl rfl) rfl ?_
      refine ops_nil ?_
      refine post_next ?_
      refine code_cond rfl (fun hc2 => ?_) (fun hc2 => ?_)
      · have hki' : (k : Int) = (i : Int) := by simpa using hc2
        have hki : k = i := by omega
        subst hki
        refine code_draw (.fl 0 (.fl 1 (.fl 2 (.fl 3 (.fl 4 (.fl 5 (.fl 6 (.fl 7 (.fl 8 (.fl 9 (.ef 10 (.ef 11 (.ef 12 (.fl 13 (.ef 14 .done))))))))))))))) (fun _ => [.box b7 24 [.int .i64 h, .slice ar k cr], .box b6 24 [.int .i64 0, .slice none 0 0], .box b5 24 [.int .i64 u.head, .slice ud u.args.length uc], .box b3 24 [.int .i64 h, .slice ad ts.length c]]) mixed (by kernel_rfl) (by kernel_rfl) (fun _ => (List.Sublist.cons _ (List.Sublist.refl _))) ?_
        first | refine e_float rfl rfl (fun hs_ => PF.mk rfl (v_fieldB 1 Try.underlying24 rfl rfl fz22 rfl) hs_) (by repeat (first | exact Imm.le_refl _ | assumption | refine Imm.le_trans ?_ (by assumption))) (by intro x hx; first | exact hx | exact List.mem_cons_of_mem _ hx | exact List.mem_append_right _ hx | (simp only [List.mem_cons, List.not_mem_nil, or_false] at hx; repeat' (first | (subst hx; simp [cellsL]; done) | rcases hx with hx | hx)) | simp_all) ?_ | refine e_float rfl rfl (fun hs_ => PF.mk rfl (v_fieldI 1 Try.underlying24 rfl rfl fz22 rfl (by assumption)) hs_) (by repeat (first | exact Imm.le_refl _ | assumption | refine Imm.le_trans ?_ (by assumption))) (by intro x hx; first | exact hx | exact List.mem_cons_of_mem _ hx | exact List.mem_append_right _ hx | (simp only [List.mem_cons, List.not_mem_nil, or_false] at hx; repeat' (first | (subst hx; simp [cellsL]; done) | rcases hx with hx | hx)) | simp_all) ?_ | refine e_float rfl rfl (fun hs_ => PF.mk rfl (v_field Try.underlying24 rfl fz22 rfl rfl) hs_) (by repeat (first | exact Imm.le_refl _ | assumption | refine Imm.le_trans ?_ (by assumption))) (by intro x hx; first | exact hx | exact List.mem_cons_of_mem _ hx | exact List.mem_append_right _ hx | (simp only [List.mem_cons, List.not_mem_nil, or_false] at hx; repeat' (first | (subst hx; simp [cellsL]; done) | rcases hx with hx | hx)) | simp_all) ?_
        refine e_float rfl rfl (fun hs_ => PF.mk rfl (v_load ty22 rfl (by first | exact Has.here | exact Has.there Has.here | exact Has.there (Has.there Has.here) | exact Has.there (Has.there (Has.there Has.here)) | exact Has.there (Has.there (Has.there (Has.there Has.here))) | exact Has.there (Has.there (Has.there (Has.there (Has.there Has.here)))) | exact Has.there (Has.there (Has.there (Has.there (Has.there (Has.there Has.here)))))) rfl) hs_) (by repeat (first | exact Imm.le_refl _ | assumption | refine Imm.le_trans ?_ (by assumption))) (by intro x hx; first | exact hx | exact List.mem_cons_of_mem _ hx | exact List.mem_append_right _ hx | (simp only [List.mem_cons, List.not_mem_nil, or_false] at hx; repeat' (first | (subst hx; simp [cellsL]; done) | rcases hx with hx | hx)) | simp_all) ?_
        first | refine e_float rfl rfl (fun hs_ => PF.mk rfl (v_fieldB 1 Try.underlying24 rfl rfl fz22 rfl) hs_) (by repeat (first | exact Imm.le_refl _ | assumption | refine Imm.le_trans ?_ (by assumption))) (by intro x hx; first | exact hx | exact List.mem_cons_of_mem _ hx | exact List.mem_append_right _ hx | (simp only [List.mem_cons, List.not_mem_nil, or_false] at hx; repeat' (first | (subst hx; simp [cellsL]; done) | rcases hx with hx | hx)) | simp_all) ?_ | refine e_float rfl rfl (fun hs_ => PF.mk rfl (v_fieldI 1 Try.underlying24 rfl rfl fz22 rfl (by assumption)) hs_) (by repeat (first | exact Imm.le_refl _ | assumption | refine Imm.le_trans ?_ (by assumption))) (by intro x hx; first | exact hx | exact List.mem_cons_of_mem _ hx | exact List.mem_append_right _ hx | (simp only [List.mem_cons, List.not_mem_nil, or_false] at hx; repeat' (first | (subst hx; simp [cellsL]; done) | rcases hx with hx | hx)) | simp_all) ?_ | refine e_float rfl rfl (fun hs_ => PF.mk rfl (v_field Try.underlying24 rfl fz22 rfl rfl) hs_) (by repeat (first | exact Imm.le_refl _ | assumption | refine Imm.le_trans ?_ (by assumption))) (by intro x hx; first | exact hx | exact List.mem_cons_of_mem _ hx | exact List.mem_append_right _ hx | (simp only [List.mem_cons, List.not_mem_nil, or_false] at hx; repeat' (first | (subst hx; simp [cellsL]; done) | rcases hx with hx | hx)) | simp_all) ?_
        refine e_float rfl rfl (fun hs_ => PF.mk rfl (v_load ty22 rfl (by first | exact Has.here | exact Has.there Has.here | exact Has.there (Has.there Has.here) | exact Has.there (Has.there (Has.there Has.here)) | exact Has.there (Has.there (Has.there (Has.there Has.here))) | exact Has.there (Has.there (Has.there (Has.there (Has.there Has.here)))) | exact Has.there (Has.there (Has.there (Has.there (Has.there (Has.there Has.here)))))) rfl) hs_) (by repeat (first | exact Imm.le_refl _ | assumption | refine Imm.le_trans ?_ (by assumption))) (by intro x hx; first | exact hx | exact List.mem_cons_of_mem _ hx | exact List.mem_append_right _ hx | (simp only [List.mem_cons, List.not_mem_nil, or_false] at hx; repeat' (first | (subst hx; simp [cellsL]; done) | rcases hx with hx | hx)) | simp_all) ?_
        refine e_float rfl rfl (fun hs_ => PF.mk rfl (v_move rfl) hs_) (by repeat (first | exact Imm.le_refl _ | assumption | refine Imm.le_trans ?_ (by assumption))) (by intro x hx; first | exact hx | exact List.mem_cons_of_mem _ hx | exact List.mem_append_right _ hx | (simp only [List.mem_cons, List.not_mem_nil, or_false] at hx; repeat' (first | (subst hx; simp [cellsL]; done) | rcases hx with hx | hx)) | simp_all) ?_
        first | refine e_float rfl rfl (fun hs_ => PF.mk rfl (v_index Try.underlying22 sz24 rfl rfl (by omega) (by assumption)) hs_) (by repeat (first | exact Imm.le_refl _ | assumption | refine Imm.le_trans ?_ (by assumption))) (by intro x hx; first | exact hx | exact List.mem_cons_of_mem _ hx | exact List.mem_append_right _ hx | (simp only [List.mem_cons, List.not_mem_nil, or_false] at hx; repeat' (first | (subst hx; simp [cellsL]; done) | rcases hx with hx | hx)) | simp_all) ?_ | refine e_float rfl rfl (fun hs_ => PF.mk rfl (v_indexI Try.underlying22 sz24 rfl rfl (by first | omega | (simp; done) | (simp; omega)) (by first | omega | (simp; done) | (simp; omega)) (by assumption)) hs_) (by repeat (first | exact Imm.le_refl _ | assumption | refine Imm.le_trans ?_ (by assumption))) (by intro x hx; first | exact hx | exact List.mem_cons_of_mem _ hx | exact List.mem_append_right _ hx | (simp only [List.mem_cons, List.not_mem_nil, or_false] at hx; repeat' (first | (subst hx; simp [cellsL]; done) | rcases hx with hx | hx)) | simp_all) ?_
        first | refine e_float rfl rfl (fun hs_ => PF.mk rfl (v_loadI0 ty24 ((hat k hlt).mono hI0) rfl rfl rfl) hs_) (by repeat (first | exact Imm.le_refl _ | assumption | refine Imm.le_trans ?_ (by assumption))) (by intro x hx; first | exact hx | exact List.mem_cons_of_mem _ hx | exact List.mem_append_right _ hx | (simp only [List.mem_cons, List.not_mem_nil, or_false] at hx; repeat' (first | (subst hx; simp [cellsL]; done) | rcases hx with hx | hx)) | simp_all) ?_ | refine e_float rfl rfl (fun hs_ => PF.mk rfl (v_loadI ty24 ((hat k hlt).mono hI0) rfl rfl rfl) hs_) (by repeat (first | exact Imm.le_refl _ | assumption | refine Imm.le_trans ?_ (by assumption))) (by intro x hx; first | exact hx | exact List.mem_cons_of_mem _ hx | exact List.mem_append_right _ hx | (simp only [List.mem_cons, List.not_mem_nil, or_false] at hx; repeat' (first | (subst hx; simp [cellsL]; done) | rcases hx with hx | hx)) | simp_all) ?_
        refine e_float rfl rfl (fun hs_ => PF.mk rfl (v_move rfl) hs_) (by repeat (first | exact Imm.le_refl _ | assumption | refine Imm.le_trans ?_ (by assumption))) (by intro x hx; first | exact hx | exact List.mem_cons_of_mem _ hx | exact List.mem_append_right _ hx | (simp only [List.mem_cons, List.not_mem_nil, or_false] at hx; repeat' (first | (subst hx; simp [cellsL]; done) | rcases hx with hx | hx)) | simp_all) ?_
        refine e_float rfl rfl (fun hs_ => PF.mk rfl (v_sliceFrom Try.underlying25 sz3 rfl rfl (by first | omega | (simp; done) | (simp; omega)) (by assumption)) hs_) (by repeat (first | exact Imm.le_refl _ | assumption | refine Imm.le_trans ?_ (by assumption))) (by intro x hx; first | exact hx | exact List.mem_cons_of_mem _ hx | exact List.mem_append_right _ hx | (simp only [List.mem_cons, List.not_mem_nil, or_false] at hx; repeat' (first | (subst hx; simp [cellsL]; done) | rcases hx with hx | hx)) | simp_all) ?_
        refine e_float rfl rfl (fun hs_ => PF.mk rfl (v_load ty24 rfl (by first | exact Has.here | exact Has.there Has.here | exact Has.there (Has.there Has.here) | exact Has.there (Has.there (Has.there Has.here)) | exact Has.there (Has.there (Has.there (Has.there Has.here))) | exact Has.there (Has.there (Has.there (Has.there (Has.there Has.here)))) | exact Has.there (Has.there (Has.there (Has.there (Has.there (Has.there Has.here)))))) rfl) hs_) (by repeat (first | exact Imm.le_refl _ | assumption | refine Imm.le_trans ?_ (by assumption))) (by intro x hx; first | exact hx | exact List.mem_cons_of_mem _ hx | exact List.mem_append_right _ hx | (simp only [List.mem_cons, List.not_mem_nil, or_false] at hx; repeat' (first | (subst hx; simp [cellsL]; done) | rcases hx with hx | hx)) | simp_all) ?_
        refine e_eff rfl (by intro cs b hc; cases hc) (by intro c hc; cases hc) ?_
        refine op_call pl52 rfl rfl ((ih ts[k] u hsome' _ _ _ _ ((hsub k hlt).mono hI0) ((RInts.tail hpc hpb hpat hpr).mono hI0) (hu.mono hI0))) Parts.none ?_
        rintro v38 I38 _ hI38 ⟨hv38, rfl⟩
        obtain ⟨p38, q38, rfl, _⟩ := hv38.shape
        refine ops_nil ?_
        refine e_next rfl (side_all (by repeat (first | exact Imm.le_refl _ | assumption | refine Imm.le_trans ?_ (by assumption))) (fun _ => (by intro x hx; first | exact hx | exact List.mem_cons_of_mem _ hx | exact List.mem_append_right _ hx | (simp only [List.mem_cons, List.not_mem_nil, or_false] at hx; repeat' (first | (subst hx; simp [cellsL]; done) | rcases hx with hx | hx)) | simp_all))) ?_
        refine e_eff rfl (by intro cs b hc; cases hc) (by intro c hc; cases hc) ?_
        refine o_buildSlice (xs := [(Go.Operand.tmp 38)]) Try.underlying22 bs24 rfl rfl rfl rfl rfl (fun b39 => ?_)
        refine ops_nil ?_
        refine e_next rfl (side_all (by repeat (first | exact Imm.le_refl _ | assumption | refine Imm.le_trans ?_ (by assumption))) (fun _ => (by intro x hx; first | exact hx | exact List.mem_cons_of_mem _ hx | exact List.mem_append_right _ hx | (simp only [List.mem_cons, List.not_mem_nil, or_false] at hx; repeat' (first | (subst hx; simp [cellsL]; done) | rcases hx with hx | hx)) | simp_all))) ?_
        refine e_eff rfl (by intro cs b hc; cases hc) (by intro c hc; cases hc) ?_
        refine o_append Try.underlying22 bs24 rfl rfl rfl (fun v' => by first | exact Swap.here | exact Swap.there Swap.here | exact Swap.there (Swap.there Swap.here) | exact Swap.there (Swap.there (Swap.there Swap.here)) | exact Swap.there (Swap.there (Swap.there (Swap.there Swap.here))) | exact Swap.there (Swap.there (Swap.there (Swap.there (Swap.there Swap.here))))) (Src.ofRow (by first | exact Has.here | exact Has.there Has.here | exact Has.there (Has.there Has.here) | exact Has.there (Has.there (Has.there Has.here)) | exact Has.there (Has.there (Has.there (Has.there Has.here))) | exact Has.there (Has.there (Has.there (Has.there (Has.there Has.here)))) | exact Has.there (Has.there (Has.there (Has.there (Has.there (Has.there Has.here)))))) rfl) (by first | rfl | omega | simp) (by simp [cat, cellsL, Value.oneCell']) (by omega) (by omega) (fun a40 c40 => ?_)
        refine ops_nil ?_
        refine e_next rfl (side_all (by repeat (first | exact Imm.le_refl _ | assumption | refine Imm.le_trans ?_ (by assumption))) (fun _ => (by intro x hx; first | exact hx | exact List.mem_cons_of_mem _ hx | exact List.mem_append_right _ hx | (simp only [List.mem_cons, List.not_mem_nil, or_false] at hx; repeat' (first | (subst hx; simp [cellsL]; done) | rcases hx with hx | hx)) | simp_all))) ?_
        first | refine e_float rfl rfl (fun hs_ => PF.mk rfl (v_fieldB 1 Try.underlying24 rfl rfl fz22 rfl) hs_) (by repeat (first | exact Imm.le_refl _ | assumption | refine Imm.le_trans ?_ (by assumption))) (by intro x hx; first | exact hx | exact List.mem_cons_of_mem _ hx | exact List.mem_append_right _ hx | (simp only [List.mem_cons, List.not_mem_nil, or_false] at hx; repeat' (first | (subst hx; simp [cellsL]; done) | rcases hx with hx | hx)) | simp_all) ?_ | refine e_float rfl rfl (fun hs_ => PF.mk rfl (v_fieldI 1 Try.underlying24 rfl rfl fz22 rfl (by assumption)) hs_) (by repeat (first | exact Imm.le_refl _ | assumption | refine Imm.le_trans ?_ (by assumption))) (by intro x hx; first | exact hx | exact List.mem_cons_of_mem _ hx | exact List.mem_append_right _ hx | (simp only [List.mem_cons, List.not_mem_nil, or_false] at hx; repeat' (first | (subst hx; simp [cellsL]; done) | rcases hx with hx | hx)) | simp_all) ?_ | refine e_float rfl rfl (fun hs_ => PF.mk rfl (v_field Try.underlying24 rfl fz22 rfl rfl) hs_) (by repeat (first | exact Imm.le_refl _ | assumption | refine Imm.le_trans ?_ (by assumption))) (by intro x hx; first | exact hx | exact List.mem_cons_of_mem _ hx | exact List.mem_append_right _ hx | (simp only [List.mem_cons, List.not_mem_nil, or_false] at hx; repeat' (first | (subst hx; simp [cellsL]; done) | rcases hx with hx | hx)) | simp_all) ?_
        refine e_eff rfl (by intro cs b hc; cases hc) (by intro c hc; cases hc) ?_
        refine o_store ty22 rfl rfl rfl rfl rfl (by first | exact Swap.here | exact Swap.there Swap.here | exact Swap.there (Swap.there Swap.here) | exact Swap.there (Swap.there (Swap.there Swap.here)) | exact Swap.there (Swap.there (Swap.there (Swap.there Swap.here))) | exact Swap.there (Swap.there (Swap.there (Swap.there (Swap.there Swap.here))))) rfl ?_
        refine ops_nil ?_
        refine e_next_ (side_nil (by kernel_rfl)) ?_
        refine e_done ?_
        refine post_out ?_
        refine post_next ?_
        refine code_region ?_
        refine op_v (v_move rfl) rfl ?_
        first | refine op_v (v_addb rfl rfl rfl (by omega)) rfl ?_ | refine op_v (v_add rfl rfl) rfl ?_
        refine op_v (v_assign rfl) rfl ?_
        refine ops_nil ?_
        refine PostJ.view (View.drop Del.here) ?_
        have hus : us[k]'(by omega) = putT ts[k] r u := by subst hw; simp
        refine post_again (ts.length - (k + 1)) [(1, .slice pd ((k : Int) :: r).length e), (3, .pointer (some ⟨b3, 0, none⟩)), (5, .pointer (some ⟨b5, 0, none⟩)), (6, .pointer (some ⟨b6, 0, none⟩)), (7, .pointer (some ⟨b7, 0, none⟩)), (8, .int .i64 ((k + 1 : Nat) : Int))] (by omega) ⟨k + 1, a40, c40, xs ++ [_, _], rfl, hlt, rfl, Imm.le_trans hI0 hI38, rfl, ?_⟩ ⟨rfl, rfl, rfl, rfl, rfl, rfl, trivial⟩
        rw [List.take_succ_eq_append_getElem (by omega), hus]
        exact (hrow.mono hI38).app (RowT.one hv38)
      · have hki : k ≠ i := by intro e; subst e; simp at hc2
        refine code_draw (.fl 0 (.fl 1 (.fl 2 (.fl 3 (.fl 4 (.fl 5 (.fl 6 (.ef 7 (.ef 8 (.fl 9 (.ef 10 .done))))))))))) (fun _ => [.box b7 24 [.int .i64 h, .slice ar k cr], .box b6 24 [.int .i64 0, .slice none 0 0], .box b5 24 [.int .i64 u.head, .slice ud u.args.length uc], .box b3 24 [.int .i64 h, .slice ad ts.length c]]) mixed (by kernel_rfl) (by kernel_rfl) (fun _ => (List.Sublist.cons _ (List.Sublist.refl _))) ?_
        first | refine e_float rfl rfl (fun hs_ => PF.mk rfl (v_fieldB 1 Try.underlying24 rfl rfl fz22 rfl) hs_) (by repeat (first | exact Imm.le_refl _ | assumption | refine Imm.le_trans ?_ (by assumption))) (by intro x hx; first | exact hx | exact List.mem_cons_of_mem _ hx | exact List.mem_append_right _ hx | (simp only [List.mem_cons, List.not_mem_nil, or_false] at hx; repeat' (first | (subst hx; simp [cellsL]; done) | rcases hx with hx | hx)) | simp_all) ?_ | refine e_float rfl rfl (fun hs_ => PF.mk rfl (v_fieldI 1 Try.underlying24 rfl rfl fz22 rfl (by assumption)) hs_) (by repeat (first | exact Imm.le_refl _ | assumption | refine Imm.le_trans ?_ (by assumption))) (by intro x hx; first | exact hx | exact List.mem_cons_of_mem _ hx | exact List.mem_append_right _ hx | (simp only [List.mem_cons, List.not_mem_nil, or_false] at hx; repeat' (first | (subst hx; simp [cellsL]; done) | rcases hx with hx | hx)) | simp_all) ?_ | refine e_float rfl rfl (fun hs_ => PF.mk rfl (v_field Try.underlying24 rfl fz22 rfl rfl) hs_) (by repeat (first | exact Imm.le_refl _ | assumption | refine Imm.le_trans ?_ (by assumption))) (by intro x hx; first | exact hx | exact List.mem_cons_of_mem _ hx | exact List.mem_append_right _ hx | (simp only [List.mem_cons, List.not_mem_nil, or_false] at hx; repeat' (first | (subst hx; simp [cellsL]; done) | rcases hx with hx | hx)) | simp_all) ?_
        refine e_float rfl rfl (fun hs_ => PF.mk rfl (v_load ty22 rfl (by first | exact Has.here | exact Has.there Has.here | exact Has.there (Has.there Has.here) | exact Has.there (Has.there (Has.there Has.here)) | exact Has.there (Has.there (Has.there (Has.there Has.here))) | exact Has.there (Has.there (Has.there (Has.there (Has.there Has.here)))) | exact Has.there (Has.there (Has.there (Has.there (Has.there (Has.there Has.here)))))) rfl) hs_) (by repeat (first | exact Imm.le_refl _ | assumption | refine Imm.le_trans ?_ (by assumption))) (by intro x hx; first | exact hx | exact List.mem_cons_of_mem _ hx | exact List.mem_append_right _ hx | (simp only [List.mem_cons, List.not_mem_nil, or_false] at hx; repeat' (first | (subst hx; simp [cellsL]; done) | rcases hx with hx | hx)) | simp_all) ?_
        first | refine e_float rfl rfl (fun hs_ => PF.mk rfl (v_fieldB 1 Try.underlying24 rfl rfl fz22 rfl) hs_) (by repeat (first | exact Imm.le_refl _ | assumption | refine Imm.le_trans ?_ (by assumption))) (by intro x hx; first | exact hx | exact List.mem_cons_of_mem _ hx | exact List.mem_append_right _ hx | (simp only [List.mem_cons, List.not_mem_nil, or_false] at hx; repeat' (first | (subst hx; simp [cellsL]; done) | rcases hx with hx | hx)) | simp_all) ?_ | refine e_float rfl rfl (fun hs_ => PF.mk rfl (v_fieldI 1 Try.underlying24 rfl rfl fz22 rfl (by assumption)) hs_) (by repeat (first | exact Imm.le_refl _ | assumption | refine Imm.le_trans ?_ (by assumption))) (by intro x hx; first | exact hx | exact List.mem_cons_of_mem _ hx | exact List.mem_append_right _ hx | (simp only [List.mem_cons, List.not_mem_nil, or_false] at hx; repeat' (first | (subst hx; simp [cellsL]; done) | rcases hx with hx | hx)) | simp_all) ?_ | refine e_float rfl rfl (fun hs_ => PF.mk rfl (v_field Try.underlying24 rfl fz22 rfl rfl) hs_) (by repeat (first | exact Imm.le_refl _ | assumption | refine Imm.le_trans ?_ (by assumption))) (by intro x hx; first | exact hx | exact List.mem_cons_of_mem _ hx | exact List.mem_append_right _ hx | (simp only [List.mem_cons, List.not_mem_nil, or_false] at hx; repeat' (first | (subst hx; simp [cellsL]; done) | rcases hx with hx | hx)) | simp_all) ?_
        refine e_float rfl rfl (fun hs_ => PF.mk rfl (v_load ty22 rfl (by first | exact Has.here | exact Has.there Has.here | exact Has.there (Has.there Has.here) | exact Has.there (Has.there (Has.there Has.here)) | exact Has.there (Has.there (Has.there (Has.there Has.here))) | exact Has.there (Has.there (Has.there (Has.there (Has.there Has.here)))) | exact Has.there (Has.there (Has.there (Has.there (Has.there (Has.there Has.here)))))) rfl) hs_) (by repeat (first | exact Imm.le_refl _ | assumption | refine Imm.le_trans ?_ (by assumption))) (by intro x hx; first | exact hx | exact List.mem_cons_of_mem _ hx | exact List.mem_append_right _ hx | (simp only [List.mem_cons, List.not_mem_nil, or_false] at hx; repeat' (first | (subst hx; simp [cellsL]; done) | rcases hx with hx | hx)) | simp_all) ?_
        refine e_float rfl rfl (fun hs_ => PF.mk rfl (v_move rfl) hs_) (by repeat (first | exact Imm.le_refl _ | assumption | refine Imm.le_trans ?_ (by assumption))) (by intro x hx; first | exact hx | exact List.mem_cons_of_mem _ hx | exact List.mem_append_right _ hx | (simp only [List.mem_cons, List.not_mem_nil, or_false] at hx; repeat' (first | (subst hx; simp [cellsL]; done) | rcases hx with hx | hx)) | simp_all) ?_
        first | refine e_float rfl rfl (fun hs_ => PF.mk rfl (v_index Try.underlying22 sz24 rfl rfl (by omega) (by assumption)) hs_) (by repeat (first | exact Imm.le_refl _ | assumption | refine Imm.le_trans ?_ (by assumption))) (by intro x hx; first | exact hx | exact List.mem_cons_of_mem _ hx | exact List.mem_append_right _ hx | (simp only [List.mem_cons, List.not_mem_nil, or_false] at hx; repeat' (first | (subst hx; simp [cellsL]; done) | rcases hx with hx | hx)) | simp_all) ?_ | refine e_float rfl rfl (fun hs_ => PF.mk rfl (v_indexI Try.underlying22 sz24 rfl rfl (by first | omega | (simp; done) | (simp; omega)) (by first | omega | (simp; done) | (simp; omega)) (by assumption)) hs_) (by repeat (first | exact Imm.le_refl _ | assumption | refine Imm.le_trans ?_ (by assumption))) (by intro x hx; first | exact hx | exact List.mem_cons_of_mem _ hx | exact List.mem_append_right _ hx | (simp only [List.mem_cons, List.not_mem_nil, or_false] at hx; repeat' (first | (subst hx; simp [cellsL]; done) | rcases hx with hx | hx)) | simp_all) ?_
        first | refine e_float rfl rfl (fun hs_ => PF.mk rfl (v_loadI0 ty24 ((hat k hlt).mono hI0) rfl rfl rfl) hs_) (by repeat (first | exact Imm.le_refl _ | assumption | refine Imm.le_trans ?_ (by assumption))) (by intro x hx; first | exact hx | exact List.mem_cons_of_mem _ hx | exact List.mem_append_right _ hx | (simp only [List.mem_cons, List.not_mem_nil, or_false] at hx; repeat' (first | (subst hx; simp [cellsL]; done) | rcases hx with hx | hx)) | simp_all) ?_ | refine e_float rfl rfl (fun hs_ => PF.mk rfl (v_loadI ty24 ((hat k hlt).mono hI0) rfl rfl rfl) hs_) (by repeat (first | exact Imm.le_refl _ | assumption | refine Imm.le_trans ?_ (by assumption))) (by intro x hx; first | exact hx | exact List.mem_cons_of_mem _ hx | exact List.mem_append_right _ hx | (simp only [List.mem_cons, List.not_mem_nil, or_false] at hx; repeat' (first | (subst hx; simp [cellsL]; done) | rcases hx with hx | hx)) | simp_all) ?_
        refine e_eff rfl (by intro cs b hc; cases hc) (by intro c hc; cases hc) ?_
        refine o_buildSlice (xs := [(Go.Operand.tmp 48)]) Try.underlying22 bs24 rfl rfl rfl rfl rfl (fun b49 => ?_)
        refine ops_nil ?_
        refine e_next rfl (side_all (by repeat (first | exact Imm.le_refl _ | assumption | refine Imm.le_trans ?_ (by assumption))) (fun _ => (by intro x hx; first | exact hx | exact List.mem_cons_of_mem _ hx | exact List.mem_append_right _ hx | (simp only [List.mem_cons, List.not_mem_nil, or_false] at hx; repeat' (first | (subst hx; simp [cellsL]; done) | rcases hx with hx | hx)) | simp_all))) ?_
        refine e_eff rfl (by intro cs b hc; cases hc) (by intro c hc; cases hc) ?_
        refine o_append Try.underlying22 bs24 rfl rfl rfl (fun v' => by first | exact Swap.here | exact Swap.there Swap.here | exact Swap.there (Swap.there Swap.here) | exact Swap.there (Swap.there (Swap.there Swap.here)) | exact Swap.there (Swap.there (Swap.there (Swap.there Swap.here))) | exact Swap.there (Swap.there (Swap.there (Swap.there (Swap.there Swap.here))))) (Src.ofRow (by first | exact Has.here | exact Has.there Has.here | exact Has.there (Has.there Has.here) | exact Has.there (Has.there (Has.there Has.here)) | exact Has.there (Has.there (Has.there (Has.there Has.here))) | exact Has.there (Has.there (Has.there (Has.there (Has.there Has.here)))) | exact Has.there (Has.there (Has.there (Has.there (Has.there (Has.there Has.here)))))) rfl) (by first | rfl | omega | simp) (by simp [cat, cellsL, Value.oneCell']) (by omega) (by omega) (fun a50 c50 => ?_)
        refine ops_nil ?_
        refine e_next rfl (side_all (by repeat (first | exact Imm.le_refl _ | assumption | refine Imm.le_trans ?_ (by assumption))) (fun _ => (by intro x hx; first | exact hx | exact List.mem_cons_of_mem _ hx | exact List.mem_append_right _ hx | (simp only [List.mem_cons, List.not_mem_nil, or_false] at hx; repeat' (first | (subst hx; simp [cellsL]; done) | rcases hx with hx | hx)) | simp_all))) ?_
        first | refine e_float rfl rfl (fun hs_ => PF.mk rfl (v_fieldB 1 Try.underlying24 rfl rfl fz22 rfl) hs_) (by repeat (first | exact Imm.le_refl _ | assumption | refine Imm.le_trans ?_ (by assumption))) (by intro x hx; first | exact hx | exact List.mem_cons_of_mem _ hx | exact List.mem_append_right _ hx | (simp only [List.mem_cons, List.not_mem_nil, or_false] at hx; repeat' (first | (subst hx; simp [cellsL]; done) | rcases hx with hx | hx)) | simp_all) ?_ | refine e_float rfl rfl (fun hs_ => PF.mk rfl (v_fieldI 1 Try.underlying24 rfl rfl fz22 rfl (by assumption)) hs_) (by repeat (first | exact Imm.le_refl _ | assumption | refine Imm.le_trans ?_ (by assumption))) (by intro x hx; first | exact hx | exact List.mem_cons_of_mem _ hx | exact List.mem_append_right _ hx | (simp only [List.mem_cons, List.not_mem_nil, or_false] at hx; repeat' (first | (subst hx; simp [cellsL]; done) | rcases hx with hx | hx)) | simp_all) ?_ | refine e_float rfl rfl (fun hs_ => PF.mk rfl (v_field Try.underlying24 rfl fz22 rfl rfl) hs_) (by repeat (first | exact Imm.le_refl _ | assumption | refine Imm.le_trans ?_ (by assumption))) (by intro x hx; first | exact hx | exact List.mem_cons_of_mem _ hx | exact List.mem_append_right _ hx | (simp only [List.mem_cons, List.not_mem_nil, or_false] at hx; repeat' (first | (subst hx; simp [cellsL]; done) | rcases hx with hx | hx)) | simp_all) ?_
        refine e_eff rfl (by intro cs b hc; cases hc) (by intro c hc; cases hc) ?_
        refine o_store ty22 rfl rfl rfl rfl rfl (by first | exact Swap.here | exact Swap.there Swap.here | exact Swap.there (Swap.there Swap.here) | exact Swap.there (Swap.there (Swap.there Swap.here)) | exact Swap.there (Swap.there (Swap.there (Swap.there Swap.here))) | exact Swap.there (Swap.there (Swap.there (Swap.there (Swap.there Swap.here))))) rfl ?_
        refine ops_nil ?_
        refine e_next_ (side_nil (by kernel_rfl)) ?_
        refine e_done ?_
        refine post_out ?_
        refine post_next ?_
        refine code_region ?_
        refine op_v (v_move rfl) rfl ?_
        first | refine op_v (v_addb rfl rfl rfl (by omega)) rfl ?_ | refine op_v (v_add rfl rfl) rfl ?_
        refine op_v (v_assign rfl) rfl ?_
        refine ops_nil ?_
        refine PostJ.view (View.drop Del.here) ?_
        have hus : us[k]'(by omega) = ts[k] := by subst hw; rw [List.getElem_set_ne (by omega)]
        refine post_again (ts.length - (k + 1)) [(1, .slice pd ((i : Int) :: r).length e), (3, .pointer (some ⟨b3, 0, none⟩)), (5, .pointer (some ⟨b5, 0, none⟩)), (6, .pointer (some ⟨b6, 0, none⟩)), (7, .pointer (some ⟨b7, 0, none⟩)), (8, .int .i64 ((k + 1 : Nat) : Int))] (by omega) ⟨k + 1, a50, c50, xs ++ [_, _], rfl, hlt, rfl, hI0, rfl, ?_⟩ ⟨rfl, rfl, rfl, rfl, rfl, rfl, trivial⟩
        rw [List.take_succ_eq_append_getElem (by omega), hus]
        exact hrow.app (RowT.one ((hsub k hlt).mono hI0))
    · have hge : k = ts.length := by simp at hc1; omega
      subst hge
      rw [← husl, List.take_length] at hrow
      refine code_exit ?_
      refine post_exit_then ?_
      refine post_exit_then ?_
      refine post_exit ?_
      refine post_next ?_
      refine code_seq ?_
      refine code_region ?_
      refine OpsJ.freezeRow Del.here ?_
      rintro I26 ar cr hI26 hvr hcr hlr hcells
      cases hvr
      refine op_v (v_load ty24 rfl (by first | exact Has.here | exact Has.there Has.here | exact Has.there (Has.there Has.here) | exact Has.there (Has.there (Has.there Has.here)) | exact Has.there (Has.there (Has.there (Has.there Has.here))) | exact Has.there (Has.there (Has.there (Has.there (Has.there Has.here)))) | exact Has.there (Has.there (Has.there (Has.there (Has.there (Has.there Has.here)))))) rfl) rfl ?_
      refine o_store ty24 rfl rfl rfl rfl rfl (by first | exact Swap.here | exact Swap.there Swap.here | exact Swap.there (Swap.there Swap.here) | exact Swap.there (Swap.there (Swap.there Swap.here)) | exact Swap.there (Swap.there (Swap.there (Swap.there Swap.here))) | exact Swap.there (Swap.there (Swap.there (Swap.there (Swap.there Swap.here))))) rfl ?_
      refine ops_nil ?_
      refine post_next ?_
      refine code_ret ?_
      refine post_ret (rs := [.cell 6 24]) rfl (List.Perm.refl _) (.cons (.cell rfl ty24 (by first | exact Has.here | exact Has.there Has.here | exact Has.there (Has.there Has.here) | exact Has.there (Has.there (Has.there Has.here)) | exact Has.there (Has.there (Has.there (Has.there Has.here))) | exact Has.there (Has.there (Has.there (Has.there (Has.there Has.here)))) | exact Has.there (Has.there (Has.there (Has.there (Has.there (Has.there Has.here)))))) rfl) .nil) (List.nil_sublist _) ?_
      rw [← husl]
      rw [← husl] at hcr hb
      exact ⟨RowT.rep hcells (hrow.mono hI26) hr hcr hb, rfl⟩

def PutR (t : T) (p : List Int) (u : T) (v : Value) (I : Imm) : Prop :=
  ∃ x, v = .tuple #[x, .int .i64 (if (atT t p).isSome then 0 else 6)] ∧ RepT I x (if (atT t p).isSome then putT t p u else zeroT)

theorem Put2_does (p : List Int) (t u : T) (I : Imm) (v vp vu : Value) (hv : RepT I v t) (hp : RInts I vp p) (hu : RepT I vu u) :
    Does Try.prog 21 [v, vp, vu] I [] (fun v I' δ' => PutR t p u v I' ∧ δ' = []) := by
  obtain ⟨ad, c, rfl, hr0⟩ := hv.shape
  obtain ⟨ud, uc, rfl, hur⟩ := hu.shape
  refine Does.intro Try.func21 rfl Try.ntmps21 rfl fun w0 => ?_
  refine code_seq ?_
  refine code_region ?_
  refine o_box rfl rfl rfl (fun b3 => ?_)
  refine o_box rfl rfl rfl (fun b5 => ?_)
  refine o_alloc z24 rfl rfl (fun b6 => ?_)
  refine op_v (v_assign rfl) rfl ?_
  refine ops_nil ?_
  refine post_next ?_
  refine code_seq ?_
  refine code_region ?_
  refine op_v (v_load ty24 rfl (by first | exact Has.here | exact Has.there Has.here | exact Has.there (Has.there Has.here) | exact Has.there (Has.there (Has.there Has.here)) | exact Has.there (Has.there (Has.there (Has.there Has.here))) | exact Has.there (Has.there (Has.there (Has.there (Has.there Has.here)))) | exact Has.there (Has.there (Has.there (Has.there (Has.there (Has.there Has.here)))))) rfl) rfl ?_
  refine op_v (v_move rfl) rfl ?_
  refine op_call pl19 rfl rfl ((At2_does p t I _ _ hv hp)) Parts.none ?_
  rintro v13 I13 _ hI13 ⟨⟨u13, rfl, hu13⟩, rfl⟩
  obtain ⟨p13, q13, rfl, _⟩ := hu13.shape
  refine op_v (v_move rfl) rfl ?_
  refine op_v (v_extract rfl rfl) rfl ?_
  refine op_v (v_extract rfl rfl) rfl ?_
  refine o_alloc z24 rfl rfl (fun b8 => ?_)
  refine o_store ty24 rfl rfl rfl rfl rfl (by first | exact Swap.here | exact Swap.there Swap.here | exact Swap.there (Swap.there Swap.here) | exact Swap.there (Swap.there (Swap.there Swap.here)) | exact Swap.there (Swap.there (Swap.there (Swap.there Swap.here))) | exact Swap.there (Swap.there (Swap.there (Swap.there (Swap.there Swap.here))))) rfl ?_
  refine op_v (v_assign rfl) rfl ?_
  refine ops_nil ?_
  refine post_next ?_
  refine code_seq ?_
  refine code_seq ?_
  refine code_region ?_
  refine op_v (v_move rfl) rfl ?_
  by_cases hs : (atT t p).isSome = true
  · rw [hs]
    refine op_v (v_not rfl) rfl ?_
    refine ops_nil ?_
    refine post_next ?_
    refine code_cond_f rfl ?_
    refine code_skip ?_
    refine post_next ?_
    refine code_seq ?_
    refine code_region ?_
    refine op_v (v_load ty24 rfl (by first | exact Has.here | exact Has.there Has.here | exact Has.there (Has.there Has.here) | exact Has.there (Has.there (Has.there Has.here)) | exact Has.there (Has.there (Has.there (Has.there Has.here))) | exact Has.there (Has.there (Has.there (Has.there (Has.there Has.here)))) | exact Has.there (Has.there (Has.there (Has.there (Has.there (Has.there Has.here)))))) rfl) rfl ?_
    refine op_v (v_move rfl) rfl ?_
    refine op_v (v_load ty24 rfl (by first | exact Has.here | exact Has.there Has.here | exact Has.there (Has.there Has.here) | exact Has.there (Has.there (Has.there Has.here)) | exact Has.there (Has.there (Has.there (Has.there Has.here))) | exact Has.there (Has.there (Has.there (Has.there (Has.there Has.here)))) | exact Has.there (Has.there (Has.there (Has.there (Has.there (Has.there Has.here)))))) rfl) rfl ?_
    refine op_call pl52 rfl rfl ((put_does p t u hs _ _ _ _ (hv.mono hI13) (hp.mono hI13) (hu.mono hI13))) Parts.none ?_
    rintro v22 I22 _ hI22 ⟨hv22, rfl⟩
    obtain ⟨p22, q22, rfl, _⟩ := hv22.shape
    refine o_store ty24 rfl rfl rfl rfl rfl (by first | exact Swap.here | exact Swap.there Swap.here | exact Swap.there (Swap.there Swap.here) | exact Swap.there (Swap.there (Swap.there Swap.here)) | exact Swap.there (Swap.there (Swap.there (Swap.there Swap.here))) | exact Swap.there (Swap.there (Swap.there (Swap.there (Swap.there Swap.here))))) rfl ?_
    refine op_v (v_assign rfl) rfl ?_
    refine ops_nil ?_
    refine post_next ?_
    refine code_ret ?_
    refine post_ret (rs := [.cell 6 24, .tmp 7]) rfl (List.Perm.refl _) (.cons (.cell rfl ty24 (by first | exact Has.here | exact Has.there Has.here | exact Has.there (Has.there Has.here) | exact Has.there (Has.there (Has.there Has.here)) | exact Has.there (Has.there (Has.there (Has.there Has.here))) | exact Has.there (Has.there (Has.there (Has.there (Has.there Has.here)))) | exact Has.there (Has.there (Has.there (Has.there (Has.there (Has.there Has.here)))))) rfl) (.cons (.tmp rfl) .nil)) (List.nil_sublist _) ?_
    exact ⟨⟨_, by rw [hs]; rfl, by rw [hs]; exact hv22⟩, rfl⟩
  · have hs' : (atT t p).isSome = false := by simpa using hs
    rw [hs']
    refine op_v (v_not rfl) rfl ?_
    refine ops_nil ?_
    refine post_next ?_
    refine code_cond_t rfl ?_
    refine code_seq ?_
    refine code_region ?_
    refine op_v (v_build bl24 rfl rfl) rfl ?_
    refine o_store ty24 rfl rfl rfl rfl rfl (by first | exact Swap.here | exact Swap.there Swap.here | exact Swap.there (Swap.there Swap.here) | exact Swap.there (Swap.there (Swap.there Swap.here)) | exact Swap.there (Swap.there (Swap.there (Swap.there Swap.here))) | exact Swap.there (Swap.there (Swap.there (Swap.there (Swap.there Swap.here))))) rfl ?_
    refine op_v (v_assign rfl) rfl ?_
    refine ops_nil ?_
    refine post_next ?_
    refine code_ret ?_
    refine post_ret_then ?_
    refine post_ret (rs := [.cell 6 24, .tmp 7]) rfl (List.Perm.refl _) (.cons (.cell rfl ty24 (by first | exact Has.here | exact Has.there Has.here | exact Has.there (Has.there Has.here) | exact Has.there (Has.there (Has.there Has.here)) | exact Has.there (Has.there (Has.there (Has.there Has.here))) | exact Has.there (Has.there (Has.there (Has.there (Has.there Has.here)))) | exact Has.there (Has.there (Has.there (Has.there (Has.there (Has.there Has.here)))))) rfl) (.cons (.tmp rfl) .nil)) (List.nil_sublist _) ?_
    exact ⟨⟨_, by rw [hs']; rfl, by rw [hs']; exact zeroT_rep _⟩, rfl⟩
end Go.Proofs.Ytdcklngleglbbaa
