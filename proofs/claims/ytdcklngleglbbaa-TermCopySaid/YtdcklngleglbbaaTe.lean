/- Walk: a copy of a term in memory of its own, by the program. -/
import Derived.Test.YtdcklngleglbbaaTd
set_option linter.unusedVariables false
set_option linter.unusedSimpArgs false
namespace Go.Proofs.Ytdcklngleglbbaa
open Go Lg

theorem ld_two {cs : List Value} {o : Nat} {x y : Value} (h : cs[o]? = some x) (k : cs[o + 1]? = some y) : ld true 2 (cs.drop o) = some (.agg #[x, y]) := by
  obtain ⟨l1, rfl⟩ := List.getElem?_eq_some_iff.1 h
  obtain ⟨l2, rfl⟩ := List.getElem?_eq_some_iff.1 k
  rw [List.drop_eq_getElem_cons l1, List.drop_eq_getElem_cons l2]; rfl
theorem apart_bx {g2 : Nat} {e : TypeId} {cs : List Value} {Bs : List Bk} {x y : Ent} {X : List Ent} (h : (blks (.box g2 e cs :: x :: y :: (Bs.map bx ++ X))).Nodup) : g2 ∉ Bs.map (·.1) := by
  have h1 : (g2 :: blks (x :: y :: (Bs.map bx ++ X))).Nodup := h
  intro hm
  obtain ⟨z, hz, hzb⟩ := List.mem_filterMap.1 (mem_blks_bx (X := X) hm)
  exact (List.nodup_cons.1 h1).1 (List.mem_filterMap.2 ⟨z, List.mem_cons_of_mem _ (List.mem_cons_of_mem _ hz), hzb⟩)

theorem TCopy_does {I : Imm} {v : Value} {t : T} (hv : RepT I v t) (hbt : t.size ≤ 1000000000) :
    Does Try.prog 32 [v] I [] (fun v I' δ' => CopyR v I' δ') := by
  obtain ⟨ta, tc, rfl, htr⟩ := hv.shape
  have hargs := hv.args
  have htsz : t.size = 1 + sizeL t.args := by cases t; simp [T.size, T.args]
  refine Does.intro Try.func32 rfl Try.ntmps32 rfl fun w0 => ?_
  refine code_seq ?_
  refine code_region ?_
  refine o_box rfl rfl rfl (fun b1 => ?_)
  refine o_alloc z24 rfl rfl (fun b2 => ?_)
  refine ops_nil ?_
  refine post_next ?_
  refine code_seq ?_
  refine code_region ?_
  refine op_v (v_load ty24 rfl (by first | exact Has.here | exact Has.there Has.here | exact Has.there (Has.there Has.here) | exact Has.there (Has.there (Has.there Has.here)) | exact Has.there (Has.there (Has.there (Has.there Has.here))) | exact Has.there (Has.there (Has.there (Has.there (Has.there Has.here)))) | exact Has.there (Has.there (Has.there (Has.there (Has.there (Has.there Has.here)))))) rfl) rfl ?_
  refine o_alloc z24 rfl rfl (fun b3 => ?_)
  refine o_store ty24 rfl rfl rfl rfl rfl (by first | exact Swap.here | exact Swap.there Swap.here | exact Swap.there (Swap.there Swap.here) | exact Swap.there (Swap.there (Swap.there Swap.here)) | exact Swap.there (Swap.there (Swap.there (Swap.there Swap.here))) | exact Swap.there (Swap.there (Swap.there (Swap.there (Swap.there Swap.here))))) rfl ?_
  refine ops_nil ?_
  refine post_next ?_
  refine code_seq ?_
  refine code_region ?_
  refine o_buildSlice (xs := [(Go.Operand.tmp 3)]) Try.underlying73 bs66 rfl rfl rfl rfl rfl (fun b8 => ?_)
  refine op_v (v_assign rfl) rfl ?_
  refine ops_nil ?_
  refine post_next ?_
  refine code_seq ?_
  refine code_block ?_
  refine CodeJ.view ((View.drop (Del.there (Del.there (Del.there Del.here)))).trans (View.perm (List.Perm.cons _ (List.Perm.swap _ _ _)))) ?_
  refine code_loop (fun m σ' I' δ' => ∃ (Bs : List Bk) (st : List (Nat × Nat × List T)) (ar : Option Addr) (cr : Nat), m = stSize st ∧ σ' = [(2, .pointer (some ⟨b2, 0, none⟩)), (3, .pointer (some ⟨b3, 0, none⟩)), (4, .slice ar st.length cr)] ∧ I.le I' ∧ δ' = .row (.slice ar st.length cr) 66 1 st.length (st.map ptrOf) :: .box b2 24 [.int .i64 0, .slice none 0 0] :: (Bs.map bx ++ []) ∧ Nest I' Bs st ∧ (∃ cs0, (b3, 1, cs0) ∈ Bs) ∧ stSize st ≤ 1000000000) (stSize [(b3, 0, t.args)]) [(2, .pointer (some ⟨b2, 0, none⟩)), (3, .pointer (some ⟨b3, 0, none⟩)), (4, .slice (some ⟨b8, 0, none⟩) 1 1)] ⟨[(b3, 1, [.int .i64 t.head, .slice ta t.args.length tc])], [(b3, 0, t.args)], _, _, rfl, rfl, Imm.le_refl _, rfl, Nest.start htr hargs, ⟨_, List.mem_singleton.2 rfl⟩, by simp [stSize]; omega⟩ ⟨rfl, rfl, rfl, trivial⟩ ?_
  rintro m _ I0 _ ⟨Bs, st, ar, cr, rfl, rfl, hI0, rfl, hN, ⟨cs0, hroot⟩, hsz⟩
  refine code_seq ?_
  refine code_seq ?_
  refine code_region ?_
  refine op_v (v_move rfl) rfl ?_
  refine op_v (v_len Try.underlying73 rfl) rfl ?_
  first | refine op_v (v_cmpt rfl rfl rfl (by first | omega | (simp; done) | (simp; omega))) rfl ?_ | refine op_v (v_cmpf rfl rfl rfl (by first | omega | (simp; done) | (simp; omega))) rfl ?_ | refine op_v (v_cmp rfl rfl rfl) rfl ?_
  refine ops_nil ?_
  refine post_next ?_
  refine code_cond rfl (fun hc0 => ?_) (fun hc0 => ?_)
  · rcases List.eq_nil_or_concat st with rfl | ⟨st', ⟨g, i, ts⟩, rfl⟩
    · simp at hc0
    rw [List.concat_eq_append] at *
    have hlen : (st' ++ [(g, i, ts)]).length = st'.length + 1 := by simp
    rw [hlen]
    have hss := stSize_app st' [(g, i, ts)]
    have hsl := stSize_len st'
    have hs1 : stSize [(g, i, ts)] = 1 + sizeL ts := by simp [stSize]
    obtain ⟨⟨g', n, cs⟩, hb, hbg, hin, h0, A, mm, cc, hcell, hrs⟩ := hN.pend (g, i, ts) (by simp)
    dsimp only at hbg hin hcell hrs
    subst hbg
    obtain ⟨ad, c, ss, ts, hcl, hbl, hat, hr, hsub⟩ := hrs
    obtain ⟨hca, hrow⟩ := RowT.of hat (fun i hi => RepT.mk _ _ (hr i hi) (hsub i hi))
    have hslt := sizeL_len ts
    refine code_skip ?_
    refine post_next ?_
    refine code_block ?_
    refine code_seq ?_
    refine code_region ?_
    refine OpsJ.rowSome Has.here (by omega) (fun hA hcr => ?_)
    refine op_v (v_move rfl) rfl ?_
    refine op_v (v_move rfl) rfl ?_
    refine op_v (v_len Try.underlying73 rfl) rfl ?_
    first | refine op_v (v_subb rfl rfl rfl (by omega)) rfl ?_ | refine op_v (v_sub rfl rfl) rfl ?_
    rw [show ((st'.length + 1 : Nat) : Int) - 1 = (st'.length : Nat) by omega]
    first | refine op_v (v_index Try.underlying73 sz66 rfl rfl (by omega) (by assumption)) rfl ?_ | refine op_v (v_indexI Try.underlying73 sz66 rfl rfl (by first | omega | (simp; done) | (simp; omega)) (by first | omega | (simp; done) | (simp; omega)) (by assumption)) rfl ?_
    refine op_v (v_loadRow ty66 rfl Has.here hA (ld_at (x := ptrOf (g', i, ts)) (by simp))) rfl ?_
    refine op_v (v_assign rfl) rfl ?_
    refine ops_nil ?_
    refine post_next ?_
    refine code_seq ?_
    refine code_region ?_
    refine op_v (v_move rfl) rfl ?_
    refine op_v (v_move rfl) rfl ?_
    refine op_v (v_len Try.underlying73 rfl) rfl ?_
    first | refine op_v (v_subb rfl rfl rfl (by omega)) rfl ?_ | refine op_v (v_sub rfl rfl) rfl ?_
    rw [show ((st'.length + 1 : Nat) : Int) - 1 = (st'.length : Nat) by omega]
    refine op_v (v_sliceTo Try.underlying73 sz66 rfl rfl (by omega)) rfl ?_
    refine op_v (v_assign rfl) rfl ?_
    refine ops_nil ?_
    refine post_next ?_
    refine code_seq ?_
    refine code_region ?_
    refine OpsJ.view (View.short _ Swap.here (Nat.le_succ _)) ?_
    rw [show ((st' ++ [(g', i, ts)]).map ptrOf).take (st'.length * 1) = st'.map ptrOf by simp]
    refine op_v (v_move rfl) rfl ?_
    refine op_v (v_move rfl) rfl ?_
    refine op_v (v_nilCheck rfl) rfl ?_
    first | refine op_v (v_fieldB 1 Try.underlying24 rfl rfl fz22 rfl) rfl ?_ | refine op_v (v_fieldI 1 Try.underlying24 rfl rfl fz22 rfl (by assumption)) rfl ?_ | refine op_v (v_field Try.underlying24 rfl fz22 rfl rfl) rfl ?_
    refine op_v (v_load ty22 rfl (Has.there (Has.there (has_bx [] hb))) (ld_one hcell.2.1)) rfl ?_
    refine op_call pl51 rfl rfl ((Clone_does _ hca (rowsT_length _ _) (rowsT_one _ _) hbl)) Parts.none ?_
    rintro v28 I28 _ hI28 ⟨g0, c28, rfl, rfl⟩
    refine op_v (v_nilCheck rfl) rfl ?_
    first | refine op_v (v_fieldB 1 Try.underlying24 rfl rfl fz22 rfl) rfl ?_ | refine op_v (v_fieldI 1 Try.underlying24 rfl rfl fz22 rfl (by assumption)) rfl ?_ | refine op_v (v_field Try.underlying24 rfl fz22 rfl rfl) rfl ?_
    refine o_store ty22 rfl rfl rfl rfl rfl (Swap.there (Swap.there (Swap.there (swap_bx [] hN.nd hb)))) (stL_one hcell.2.1) ?_
    have hN28 := hN.mono hI28
    have hbu : (g', n, cs.set (i * 2 + 1) (.slice g0 ts.length c28)) ∈ Bs.map (updB g' i (.slice g0 ts.length c28)) := List.mem_map.2 ⟨_, hb, by simp [updB]⟩
    have hset := List.getElem?_set_self (l := cs) (i := i * 2 + 1) (a := Value.slice g0 ts.length c28) (List.getElem?_eq_some_iff.1 hcell.2.1).1
    have hroot2 : ∃ cs0, (b3, 1, cs0) ∈ Bs.map (updB g' i (.slice g0 ts.length c28)) := ⟨(updB g' i (.slice g0 ts.length c28) (b3, 1, cs0)).2.2, List.mem_map.2 ⟨_, hroot, by unfold updB; split <;> rfl⟩⟩
    refine ops_nil ?_
    refine post_next ?_
    refine code_seq ?_
    refine code_region ?_
    rcases Nat.eq_zero_or_pos ts.length with hm0 | hm0
    · refine OpsJ.view (View.drop Del.here) ?_
      have hN2 := Nest.store (A := g0) (m := ts.length) (c := c28) [] [] hN28 (by simpa using hN.nd) (by simp) (by simp) (by simp) (.inl hm0)
      refine op_v (v_move rfl) rfl ?_
      refine op_v (v_nilCheck rfl) rfl ?_
      first | refine op_v (v_fieldB 1 Try.underlying24 rfl rfl fz22 rfl) rfl ?_ | refine op_v (v_fieldI 1 Try.underlying24 rfl rfl fz22 rfl (by assumption)) rfl ?_ | refine op_v (v_field Try.underlying24 rfl fz22 rfl rfl) rfl ?_
      refine op_v (v_load ty22 rfl (Has.there (Has.there (has_bx [] hbu))) (ld_one hset)) rfl ?_
      refine op_v (v_len Try.underlying22 rfl) rfl ?_
      refine op_v (v_move rfl) rfl ?_
      refine ops_nil ?_
      refine post_next ?_
      refine code_block ?_
      refine code_loop (fun m σ' I' δ' => m = 0 ∧ σ' = [(2, .pointer (some ⟨b2, 0, none⟩)), (3, .pointer (some ⟨b3, 0, none⟩)), (4, .slice ar st'.length cr), (35, .int .i64 ts.length), (36, .int .i64 (0 : Int))] ∧ I28 = I' ∧ δ' = .row (.slice ar st'.length cr) 66 1 st'.length (st'.map ptrOf) :: .box b2 24 [.int .i64 0, .slice none 0 0] :: ((Bs.map (updB g' i (.slice g0 ts.length c28))).map bx ++ [])) 0 [(2, .pointer (some ⟨b2, 0, none⟩)), (3, .pointer (some ⟨b3, 0, none⟩)), (4, .slice ar st'.length cr), (35, .int .i64 ts.length), (36, .int .i64 (0 : Int))] ⟨rfl, rfl, rfl, rfl⟩ ⟨rfl, rfl, rfl, rfl, rfl, trivial⟩ ?_
      rintro m _ _ _ ⟨rfl, rfl, rfl, rfl⟩
      rw [hm0] at hN2 hroot2 ⊢
      refine code_seq ?_
      refine code_region ?_
      first | refine op_v (v_cmpt rfl rfl rfl (by first | omega | (simp; done) | (simp; omega))) rfl ?_ | refine op_v (v_cmpf rfl rfl rfl (by first | omega | (simp; done) | (simp; omega))) rfl ?_ | refine op_v (v_cmp rfl rfl rfl) rfl ?_
      refine ops_nil ?_
      refine post_next ?_
      refine code_seq ?_
      refine code_cond_f rfl ?_
      refine code_exit ?_
      refine post_exit_then ?_
      refine post_exit_then ?_
      refine post_exit ?_
      refine post_out ?_
      rw [List.append_nil, List.append_nil] at hN2
      refine post_again (stSize st') [(2, .pointer (some ⟨b2, 0, none⟩)), (3, .pointer (some ⟨b3, 0, none⟩)), (4, .slice ar st'.length cr)] (by omega) ⟨_, st', ar, cr, rfl, rfl, Imm.le_trans hI0 hI28, rfl, hN2, hroot2, by omega⟩ ⟨rfl, rfl, rfl, trivial⟩
    · refine OpsJ.rowBox Del.here hm0 ?_
      rintro g2 cap cs2 hveq hcap hlen2 htk2
      obtain ⟨rfl, rfl⟩ : g0 = some ⟨g2, 0, none⟩ ∧ c28 = cap := by simpa using hveq
      refine OpsJ.apartFact (fun hnd => ?_)
      have hg2 := apart_bx hnd
      rw [updB_map] at hg2
      have hcl2 : ts.length * 2 ≤ cs2.length := by have := congrArg List.length htk2; rw [rowsT_length, List.length_take] at this; omega
      have hcells : ∀ j (hj : j < ts.length), CellAt cs2 j ts[j].head (ss j).1 ts[j].args.length (ss j).2 := fun j hj => by have h1 := rowsT_at ts ss j hj; rw [← htk2, List.getElem?_take_of_lt (by omega), List.getElem?_take_of_lt (by omega)] at h1; exact ⟨h1.1, h1.2, hr j hj⟩
      have hnn : ((Bs ++ [(g2, ts.length, cs2)]).map (·.1)).Nodup := by rw [List.map_append, List.nodup_append]; exact ⟨hN.nd, by simp, fun a ha b hb e => by simp at hb; subst hb; subst e; exact hg2 ha⟩
      have hsn : ∀ p ∈ pushes g2 ts ts.length, ∃ b ∈ [((g2, ts.length, cs2) : Bk)], b.1 = p.1 ∧ p.2.1 < b.2.1 ∧ ∃ h A m c, CellAt b.2.2 p.2.1 h A m c ∧ RepS I28 (.slice A m c) p.2.2 := fun p hp => by obtain ⟨j, hj, rfl⟩ := List.mem_map.1 hp; have hjl := List.mem_range.1 hj; have e : ts.getD j zeroT = ts[j] := (by simp [hjl]); exact ⟨_, List.mem_singleton.2 rfl, rfl, hjl, _, _, _, _, hcells j hjl, by dsimp only; rw [e]; exact (hsub j hjl).mono hI28⟩
      have hns : ∀ b ∈ [((g2, ts.length, cs2) : Bk)], b.2.1 * 2 ≤ b.2.2.length ∧ ∀ i, i < b.2.1 → ∃ us, (b.1, i, us) ∈ pushes g2 ts ts.length := fun b hb => by rw [List.mem_singleton] at hb; subst hb; exact ⟨hcl2, fun i hi => ⟨_, List.mem_map.2 ⟨i, List.mem_range.2 hi, rfl⟩⟩⟩
      have hN2 := Nest.store (A := some ⟨g2, 0, none⟩) (m := ts.length) (c := c28) [(g2, ts.length, cs2)] (pushes g2 ts ts.length) hN28 hnn (pushes_nodup _ _ _) hsn hns (.inr ⟨g2, cs2, rfl, List.mem_singleton.2 rfl⟩)
      refine OpsJ.view (View.perm (δ' := .row (.slice ar st'.length cr) 66 1 st'.length (st'.map ptrOf) :: .box b2 24 [.int .i64 0, .slice none 0 0] :: ((Bs.map (updB g' i (.slice (some ⟨g2, 0, none⟩) ts.length c28)) ++ [(g2, ts.length, cs2)]).map bx ++ [])) (by simp only [List.map_append, List.append_nil, List.map_cons, List.map_nil]; exact (List.perm_append_comm (l₁ := [_]) (l₂ := _ :: _ :: _)))) ?_
      refine op_v (v_move rfl) rfl ?_
      refine op_v (v_nilCheck rfl) rfl ?_
      first | refine op_v (v_fieldB 1 Try.underlying24 rfl rfl fz22 rfl) rfl ?_ | refine op_v (v_fieldI 1 Try.underlying24 rfl rfl fz22 rfl (by assumption)) rfl ?_ | refine op_v (v_field Try.underlying24 rfl fz22 rfl rfl) rfl ?_
      refine op_v (v_load ty22 rfl (Has.there (Has.there (has_bx [] (List.mem_append_left _ hbu)))) (ld_one hset)) rfl ?_
      refine op_v (v_len Try.underlying22 rfl) rfl ?_
      refine op_v (v_move rfl) rfl ?_
      refine ops_nil ?_
      refine post_next ?_
      refine code_block ?_
      refine code_loop (fun m σ' I' δ' => ∃ (k : Nat) (ar : Option Addr) (cr : Nat), m = ts.length - k ∧ k ≤ ts.length ∧ σ' = [(2, .pointer (some ⟨b2, 0, none⟩)), (3, .pointer (some ⟨b3, 0, none⟩)), (4, .slice ar (st' ++ pushes g2 ts k).length cr), (5, ptrOf (g', i, ts)), (35, .int .i64 ts.length), (36, .int .i64 k)] ∧ I28 = I' ∧ δ' = .row (.slice ar (st' ++ pushes g2 ts k).length cr) 66 1 (st' ++ pushes g2 ts k).length ((st' ++ pushes g2 ts k).map ptrOf) :: .box b2 24 [.int .i64 0, .slice none 0 0] :: ((Bs.map (updB g' i (.slice (some ⟨g2, 0, none⟩) ts.length c28)) ++ [(g2, ts.length, cs2)]).map bx ++ [])) ts.length [(2, .pointer (some ⟨b2, 0, none⟩)), (3, .pointer (some ⟨b3, 0, none⟩)), (4, .slice ar st'.length cr), (5, ptrOf (g', i, ts)), (35, .int .i64 ts.length), (36, .int .i64 (0 : Nat))] ⟨0, ar, cr, rfl, Nat.zero_le _, by simp [pushes], rfl, by simp [pushes]⟩ ⟨rfl, rfl, rfl, rfl, rfl, rfl, trivial⟩ ?_
      rintro m _ _ _ ⟨k, ar, cr, rfl, hk, rfl, rfl, rfl⟩
      have hpl : (st' ++ pushes g2 ts k).length = st'.length + k := by simp [pushes]
      refine code_seq ?_
      refine code_region ?_
      first | refine op_v (v_cmpt rfl rfl rfl (by first | omega | (simp; done) | (simp; omega))) rfl ?_ | refine op_v (v_cmpf rfl rfl rfl (by first | omega | (simp; done) | (simp; omega))) rfl ?_ | refine op_v (v_cmp rfl rfl rfl) rfl ?_
      refine ops_nil ?_
      refine post_next ?_
      refine code_seq ?_
      refine code_cond rfl (fun hc1 => ?_) (fun hc1 => ?_)
      · have hlt : k < ts.length := by simpa using hc1
        have hk1 : st' ++ pushes g2 ts (k + 1) = (st' ++ pushes g2 ts k) ++ [(g2, k, ts[k].args)] := by rw [pushes_snoc g2 ts k hlt]; simp
        refine code_skip ?_
        refine post_next ?_
        refine code_seq ?_
        refine code_block ?_
        refine code_seq ?_
        refine code_region ?_
        refine op_v (v_move rfl) rfl ?_
        refine op_v (v_assign rfl) rfl ?_
        refine ops_nil ?_
        refine post_next ?_
        refine code_region ?_
        refine op_v (v_move rfl) rfl ?_
        refine op_v (v_move rfl) rfl ?_
        refine op_v (v_nilCheck rfl) rfl ?_
        first | refine op_v (v_fieldB 1 Try.underlying24 rfl rfl fz22 rfl) rfl ?_ | refine op_v (v_fieldI 1 Try.underlying24 rfl rfl fz22 rfl (by assumption)) rfl ?_ | refine op_v (v_field Try.underlying24 rfl fz22 rfl rfl) rfl ?_
        refine op_v (v_load ty22 rfl (Has.there (Has.there (has_bx [] (List.mem_append_left _ hbu)))) (ld_one hset)) rfl ?_
        refine op_v (v_move rfl) rfl ?_
        refine op_v (v_index Try.underlying22 sz24 rfl rfl hlt rfl) rfl ?_
        rw [show pa (some ⟨g2, 0, none⟩) (k * 2) = ptrOf (g2, k, ts[k].args) by simp [pa, add_plain, ptrOf]]
        refine o_buildSlice (xs := [(Go.Operand.tmp 45)]) Try.underlying73 bs66 rfl rfl rfl rfl rfl (fun b46 => ?_)
        refine o_append Try.underlying73 bs66 rfl rfl rfl (fun v' => by first | exact Swap.here | exact Swap.there Swap.here | exact Swap.there (Swap.there Swap.here) | exact Swap.there (Swap.there (Swap.there Swap.here)) | exact Swap.there (Swap.there (Swap.there (Swap.there Swap.here))) | exact Swap.there (Swap.there (Swap.there (Swap.there (Swap.there Swap.here))))) (Src.ofRow (by first | exact Has.here | exact Has.there Has.here | exact Has.there (Has.there Has.here) | exact Has.there (Has.there (Has.there Has.here)) | exact Has.there (Has.there (Has.there (Has.there Has.here))) | exact Has.there (Has.there (Has.there (Has.there (Has.there Has.here)))) | exact Has.there (Has.there (Has.there (Has.there (Has.there (Has.there Has.here)))))) rfl) (by first | rfl | omega | simp) (by simp [cat, cellsL, Value.oneCell', ptrOf]) (by omega) (by omega) (fun a47 c47 => ?_)
        refine op_v (v_assign rfl) rfl ?_
        refine ops_nil ?_
        refine post_out ?_
        refine post_next ?_
        refine code_region ?_
        first | refine op_v (v_addb rfl rfl rfl (by omega)) rfl ?_ | refine op_v (v_add rfl rfl) rfl ?_
        refine op_v (v_move rfl) rfl ?_
        refine ops_nil ?_
        refine PostJ.view (View.drop Del.here) ?_
        refine post_again (ts.length - (k + 1)) [(2, .pointer (some ⟨b2, 0, none⟩)), (3, .pointer (some ⟨b3, 0, none⟩)), (4, .slice a47 ((st' ++ pushes g2 ts k).length + 1) c47), (5, ptrOf (g', i, ts)), (35, .int .i64 ts.length), (36, .int .i64 ((k + 1 : Nat) : Int))] (by omega) ⟨k + 1, a47, c47, rfl, hlt, by rw [hk1]; simp [Nat.add_assoc], rfl, by rw [hk1]; simp [cat, cellsL, ptrOf, Nat.add_assoc]⟩ ⟨rfl, rfl, rfl, rfl, rfl, rfl, trivial⟩
      · have hge : k = ts.length := by simp at hc1; omega
        subst hge
        refine code_exit ?_
        refine post_exit_then ?_
        refine post_exit_then ?_
        refine post_exit ?_
        refine post_out ?_
        have hpz := pushes_size g2 ts ts.length (Nat.le_refl _)
        rw [List.take_length] at hpz
        have hap := stSize_app st' (pushes g2 ts ts.length)
        refine post_again (stSize (st' ++ pushes g2 ts ts.length)) [(2, .pointer (some ⟨b2, 0, none⟩)), (3, .pointer (some ⟨b3, 0, none⟩)), (4, .slice ar (st' ++ pushes g2 ts ts.length).length cr)] (by omega) ⟨_, st' ++ pushes g2 ts ts.length, ar, cr, rfl, rfl, Imm.le_trans hI0 hI28, rfl, hN2, hroot2.elim fun x hx => ⟨x, List.mem_append_left _ hx⟩, by omega⟩ ⟨rfl, rfl, rfl, trivial⟩
  · have hst : st = [] := by simpa using hc0
    subst hst
    obtain ⟨hq0, hq⟩ := hN.all _ hroot
    rcases hq 0 (by simp) with ⟨us, hus⟩ | ⟨h0, A, m0, c0, hcell, hdone⟩
    · simp at hus
    dsimp only at hcell hdone
    refine code_exit ?_
    refine post_exit_then ?_
    refine post_exit_then ?_
    refine post_exit ?_
    refine post_next ?_
    refine code_seq ?_
    refine code_region ?_
    refine op_v (v_load ty24 rfl (Has.there (Has.there (has_bx [] hroot))) (ld_two (o := 0) hcell.1 hcell.2.1)) rfl ?_
    refine o_store ty24 rfl rfl rfl rfl rfl (by first | exact Swap.here | exact Swap.there Swap.here | exact Swap.there (Swap.there Swap.here) | exact Swap.there (Swap.there (Swap.there Swap.here)) | exact Swap.there (Swap.there (Swap.there (Swap.there Swap.here))) | exact Swap.there (Swap.there (Swap.there (Swap.there (Swap.there Swap.here))))) rfl ?_
    refine ops_nil ?_
    refine post_next ?_
    refine code_ret ?_
    refine post_ret (rs := [.cell 2 24]) rfl (List.Perm.refl _) (.cons (.cell rfl ty24 (by first | exact Has.here | exact Has.there Has.here | exact Has.there (Has.there Has.here) | exact Has.there (Has.there (Has.there Has.here)) | exact Has.there (Has.there (Has.there (Has.there Has.here))) | exact Has.there (Has.there (Has.there (Has.there (Has.there Has.here)))) | exact Has.there (Has.there (Has.there (Has.there (Has.there (Has.there Has.here)))))) rfl) .nil) (List.Sublist.cons _ (List.Sublist.cons _ (List.sublist_append_left _ _))) ?_
    exact ⟨h0, A, m0, c0, Bs, rfl, hcell.2.2, rfl, hN, hdone⟩
end Go.Proofs.Ytdcklngleglbbaa
