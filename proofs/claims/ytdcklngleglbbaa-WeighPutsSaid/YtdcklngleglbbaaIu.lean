/- Walk: a term's parts, ranged over. -/
import Derived.Test.YtdcklngleglbbaaIt
set_option linter.unusedVariables false
set_option linter.unusedSimpArgs false
namespace Go.Proofs.Ytdcklngleglbbaa
open Go Lg

theorem Lg.OpsJ.rowSome {C : Ctx} {Q : Exit → Act → World → Prop} {σ : Env} {ds : List Nat} {I : Imm} {δ : List Ent} {ops : Array Oper} {rest : List Oper} {A : Option Addr} {c n size : Nat} {e : TypeId} {xs : List Value} (hd : Has δ (.row (.slice A n c) e size n xs)) (hn : 0 < n)
    (h : A.isSome = true → n ≤ c → OpsJ C ops Q rest σ ds I δ) : OpsJ C ops Q rest σ ds I δ := by
  intro a w he hs ht
  have hr : w.ownsRow 0 e size (.slice A n c) n xs := hs.ents _ hd.mem
  rcases hr.2 with ⟨h1, h2⟩ | ⟨g, cap, cur, h1, _, _, h3, _⟩
  · omega
  · cases h1
    exact h rfl h3 a w he hs ht

theorem partsT_eq (d : Nat) (u : T) : partsT d u = (d, u) :: partsL (d + 1) u.args := by cases u; rfl
def encP (I : Imm) (x : Nat × T) (vs : List Value) : Prop :=
  ∃ a c, vs = [.int .i64 x.1, .agg #[.int .i64 x.2.head, .slice a x.2.args.length c]] ∧ RepT I (.agg #[.int .i64 x.2.head, .slice a x.2.args.length c]) x.2

theorem parts_iter {I : Imm} {t : T} {ad : Option Addr} {c b : Nat} (hv : RepT I (.agg #[.int .i64 t.head, .slice ad t.args.length c]) t) (hbig : t.size ≤ 1000000000) :
    Iter Try.prog 81 [.pointer (some ⟨b, 0, none⟩)] I [.box b 24 [.int .i64 t.head, .slice ad t.args.length c]] encP (partsT 1 t) := by
  intro yv J δ hmono h0 hy
  refine Does.intro Try.func81 rfl Try.ntmps81 rfl fun w0 => ?_
  refine code_seq ?_
  refine code_region ?_
  refine op_v (v_load ty24 rfl (by first | exact Has.here | exact Has.there Has.here | exact Has.there (Has.there Has.here) | exact Has.there (Has.there (Has.there Has.here)) | exact Has.there (Has.there (Has.there (Has.there Has.here))) | exact Has.there (Has.there (Has.there (Has.there (Has.there Has.here)))) | exact Has.there (Has.there (Has.there (Has.there (Has.there (Has.there Has.here)))))) rfl) rfl ?_
  refine op_v (v_build bl102 rfl rfl) rfl ?_
  refine o_buildSlice (xs := [(Go.Operand.tmp 8)]) Try.underlying103 bs102 rfl rfl rfl rfl rfl (fun b9 => ?_)
  refine o_alloc z103 rfl rfl (fun b3 => ?_)
  refine o_store ty103 rfl rfl rfl rfl rfl (by first | exact Swap.here | exact Swap.there Swap.here | exact Swap.there (Swap.there Swap.here) | exact Swap.there (Swap.there (Swap.there Swap.here)) | exact Swap.there (Swap.there (Swap.there (Swap.there Swap.here))) | exact Swap.there (Swap.there (Swap.there (Swap.there (Swap.there Swap.here))))) rfl ?_
  refine ops_nil ?_
  refine post_next ?_
  refine code_block ?_
  refine code_loopD (fun m σ' ds' I' δ' => ∃ (pre st : List (Nat × T)) (ar : Option Addr) (cr : Nat) (xs : List Value) (δJ : List Ent), m = (partsS st).length ∧ σ' = [(0, yv), (1, .pointer (some ⟨b, 0, none⟩)), (3, .pointer (some ⟨b3, 0, none⟩))] ∧ I.le I' ∧ δ' = .box b3 103 [.slice ar st.length cr] :: .row (.slice ar st.length cr) 102 3 st.length xs :: .box b 24 [.int .i64 t.head, .slice ad t.args.length c] :: (MarkEnts ds' ++ δJ) ∧ J pre I' δJ ∧ RowK I' xs st ∧ pre ++ partsS st = partsT 1 t) (partsS [(1, t)]).length [(0, yv), (1, .pointer (some ⟨b, 0, none⟩)), (3, .pointer (some ⟨b3, 0, none⟩))] ⟨[], [(1, t)], _, _, _, δ, rfl, rfl, Imm.le_refl _, rfl, h0, RowK.one hv, by simp [partsS]⟩ ⟨rfl, rfl, rfl, trivial⟩ ?_
  rintro m _ ds0 I0 _ ⟨pre, st, ar, cr, xs, δJ, rfl, rfl, hI0, rfl, hJ, hrow, hall⟩
  refine code_seq ?_
  refine code_seq ?_
  refine code_region ?_
  refine op_v (v_load ty103 rfl (by first | exact Has.here | exact Has.there Has.here | exact Has.there (Has.there Has.here) | exact Has.there (Has.there (Has.there Has.here)) | exact Has.there (Has.there (Has.there (Has.there Has.here))) | exact Has.there (Has.there (Has.there (Has.there (Has.there Has.here)))) | exact Has.there (Has.there (Has.there (Has.there (Has.there (Has.there Has.here)))))) rfl) rfl ?_
  refine op_v (v_len Try.underlying103 rfl) rfl ?_
  first | refine op_v (v_cmpt rfl rfl rfl (by first | omega | (simp; done) | (simp; omega))) rfl ?_ | refine op_v (v_cmpf rfl rfl rfl (by first | omega | (simp; done) | (simp; omega))) rfl ?_ | refine op_v (v_cmp rfl rfl rfl) rfl ?_
  refine ops_nil ?_
  refine post_next ?_
  refine code_cond rfl (fun hc0 => ?_) (fun hc0 => ?_)
  · rcases List.eq_nil_or_concat st with rfl | ⟨st', ⟨d, u⟩, rfl⟩
    · simp at hc0
    rw [List.concat_eq_append] at *
    have hlen : (st' ++ [(d, u)]).length = st'.length + 1 := by simp
    rw [hlen]
    obtain ⟨⟨sa, sc⟩, hld, hru⟩ := hrow.last
    have hrow' := hrow.take
    dsimp only at hld hru
    rw [partsS_snoc, partsT_eq] at hall
    have hdu := partsT_deep 1 t (d, u) (by rw [← hall]; simp)
    have hsz := congrArg List.length hall
    have hps := partsS_len st'
    have hus := sizeL_len u.args
    simp only [List.length_append, List.length_cons, partsT_length, partsL_length] at hsz
    dsimp only at hdu
    refine code_skip ?_
    refine post_next ?_
    refine code_block ?_
    refine code_seq ?_
    refine code_region ?_
    refine OpsJ.rowSome (Has.there Has.here) (by omega) (fun hA hcr => ?_)
    refine op_v (v_load ty103 rfl (by first | exact Has.here | exact Has.there Has.here | exact Has.there (Has.there Has.here) | exact Has.there (Has.there (Has.there Has.here)) | exact Has.there (Has.there (Has.there (Has.there Has.here))) | exact Has.there (Has.there (Has.there (Has.there (Has.there Has.here)))) | exact Has.there (Has.there (Has.there (Has.there (Has.there (Has.there Has.here)))))) rfl) rfl ?_
    refine op_v (v_load ty103 rfl (by first | exact Has.here | exact Has.there Has.here | exact Has.there (Has.there Has.here) | exact Has.there (Has.there (Has.there Has.here)) | exact Has.there (Has.there (Has.there (Has.there Has.here))) | exact Has.there (Has.there (Has.there (Has.there (Has.there Has.here)))) | exact Has.there (Has.there (Has.there (Has.there (Has.there (Has.there Has.here)))))) rfl) rfl ?_
    refine op_v (v_len Try.underlying103 rfl) rfl ?_
    first | refine op_v (v_subb rfl rfl rfl (by omega)) rfl ?_ | refine op_v (v_sub rfl rfl) rfl ?_
    rw [show ((st'.length + 1 : Nat) : Int) - 1 = (st'.length : Nat) by omega]
    first | refine op_v (v_index Try.underlying103 sz102 rfl rfl (by omega) (by assumption)) rfl ?_ | refine op_v (v_indexI Try.underlying103 sz102 rfl rfl (by first | omega | (simp; done) | (simp; omega)) (by first | omega | (simp; done) | (simp; omega)) (by assumption)) rfl ?_
    refine op_v (v_loadRow ty102 rfl (Has.there Has.here) hA hld) rfl ?_
    refine o_alloc z102 rfl rfl (fun b4 => ?_)
    refine o_store ty102 rfl rfl rfl rfl rfl (by first | exact Swap.here | exact Swap.there Swap.here | exact Swap.there (Swap.there Swap.here) | exact Swap.there (Swap.there (Swap.there Swap.here)) | exact Swap.there (Swap.there (Swap.there (Swap.there Swap.here))) | exact Swap.there (Swap.there (Swap.there (Swap.there (Swap.there Swap.here))))) rfl ?_
    refine ops_nil ?_
    refine post_next ?_
    refine code_seq ?_
    refine code_region ?_
    refine op_v (v_load ty103 rfl (by first | exact Has.here | exact Has.there Has.here | exact Has.there (Has.there Has.here) | exact Has.there (Has.there (Has.there Has.here)) | exact Has.there (Has.there (Has.there (Has.there Has.here))) | exact Has.there (Has.there (Has.there (Has.there (Has.there Has.here)))) | exact Has.there (Has.there (Has.there (Has.there (Has.there (Has.there Has.here)))))) rfl) rfl ?_
    refine op_v (v_load ty103 rfl (by first | exact Has.here | exact Has.there Has.here | exact Has.there (Has.there Has.here) | exact Has.there (Has.there (Has.there Has.here)) | exact Has.there (Has.there (Has.there (Has.there Has.here))) | exact Has.there (Has.there (Has.there (Has.there (Has.there Has.here)))) | exact Has.there (Has.there (Has.there (Has.there (Has.there (Has.there Has.here)))))) rfl) rfl ?_
    refine op_v (v_len Try.underlying103 rfl) rfl ?_
    first | refine op_v (v_subb rfl rfl rfl (by omega)) rfl ?_ | refine op_v (v_sub rfl rfl) rfl ?_
    rw [show ((st'.length + 1 : Nat) : Int) - 1 = (st'.length : Nat) by omega]
    refine op_v (v_sliceTo Try.underlying103 sz102 rfl rfl (by omega)) rfl ?_
    refine o_store ty103 rfl rfl rfl rfl rfl (by first | exact Swap.here | exact Swap.there Swap.here | exact Swap.there (Swap.there Swap.here) | exact Swap.there (Swap.there (Swap.there Swap.here)) | exact Swap.there (Swap.there (Swap.there (Swap.there Swap.here))) | exact Swap.there (Swap.there (Swap.there (Swap.there (Swap.there Swap.here))))) rfl ?_
    refine ops_nil ?_
    refine post_next ?_
    refine code_seq ?_
    refine code_seq ?_
    refine code_region ?_
    refine OpsJ.view (View.short _ (Swap.there (Swap.there Swap.here)) (Nat.le_succ _)) ?_
    refine op_v (v_move rfl) rfl ?_
    first | refine op_v (v_fieldB 2 Try.underlying102 rfl rfl fz3 rfl) rfl ?_ | refine op_v (v_fieldI 2 Try.underlying102 rfl rfl fz3 rfl (by assumption)) rfl ?_ | refine op_v (v_field Try.underlying102 rfl fz3 rfl rfl) rfl ?_
    refine op_v (v_load ty3 rfl (by first | exact Has.here | exact Has.there Has.here | exact Has.there (Has.there Has.here) | exact Has.there (Has.there (Has.there Has.here)) | exact Has.there (Has.there (Has.there (Has.there Has.here))) | exact Has.there (Has.there (Has.there (Has.there (Has.there Has.here)))) | exact Has.there (Has.there (Has.there (Has.there (Has.there (Has.there Has.here)))))) rfl) rfl ?_
    first | refine op_v (v_fieldB 0 Try.underlying102 rfl rfl fz24 rfl) rfl ?_ | refine op_v (v_fieldI 0 Try.underlying102 rfl rfl fz24 rfl (by assumption)) rfl ?_ | refine op_v (v_field Try.underlying102 rfl fz24 rfl rfl) rfl ?_
    refine op_v (v_load ty24 rfl (by first | exact Has.here | exact Has.there Has.here | exact Has.there (Has.there Has.here) | exact Has.there (Has.there (Has.there Has.here)) | exact Has.there (Has.there (Has.there (Has.there Has.here))) | exact Has.there (Has.there (Has.there (Has.there (Has.there Has.here)))) | exact Has.there (Has.there (Has.there (Has.there (Has.there (Has.there Has.here)))))) rfl) rfl ?_
    refine op_fcall rfl rfl rfl ((hy pre (d, u) _ _ _ _ hall.symm hI0 hJ ⟨sa, sc, rfl, hru⟩)) (List.perm_append_comm (l₁ := _ :: _ :: _ :: _ :: MarkEnts ds0)) ?_
    rintro v29 I29 δ29 hI29 ⟨rfl, hJ29⟩
    refine OpsJ.view (View.perm (List.perm_append_comm (l₂ := _ :: _ :: _ :: _ :: MarkEnts ds0))) ?_
    refine op_v (v_not rfl) rfl ?_
    refine ops_nil ?_
    refine post_next ?_
    refine code_cond_f rfl ?_
    refine code_skip ?_
    refine post_next ?_
    refine code_seq ?_
    refine code_region ?_
    first | refine op_v (v_fieldB 0 Try.underlying102 rfl rfl fz24 rfl) rfl ?_ | refine op_v (v_fieldI 0 Try.underlying102 rfl rfl fz24 rfl (by assumption)) rfl ?_ | refine op_v (v_field Try.underlying102 rfl fz24 rfl rfl) rfl ?_
    first | refine op_v (v_fieldB 1 Try.underlying24 rfl rfl fz22 rfl) rfl ?_ | refine op_v (v_fieldI 1 Try.underlying24 rfl rfl fz22 rfl (by assumption)) rfl ?_ | refine op_v (v_field Try.underlying24 rfl fz22 rfl rfl) rfl ?_
    refine op_v (v_load ty22 rfl (by first | exact Has.here | exact Has.there Has.here | exact Has.there (Has.there Has.here) | exact Has.there (Has.there (Has.there Has.here)) | exact Has.there (Has.there (Has.there (Has.there Has.here))) | exact Has.there (Has.there (Has.there (Has.there (Has.there Has.here)))) | exact Has.there (Has.there (Has.there (Has.there (Has.there (Has.there Has.here)))))) rfl) rfl ?_
    refine op_call pl82 rfl rfl ((Backward_does)) Parts.none ?_
    rintro v34 I34 _ hI34 ⟨b34, rfl, rfl⟩
    refine ops_nil ?_
    refine post_next ?_
    refine code_block ?_
    obtain ⟨_, _, hur, huc, hub, ss, hua, husub⟩ := (hru.mono (Imm.le_trans hI29 hI34)).open
    refine code_range (δb := [_, _, _]) (B := fun l I' δ' => ∃ (ar : Option Addr) (cr : Nat) (xs : List Value), δ' = [.box b4 102 [.int .i64 u.head, .slice sa u.args.length sc, .int .i64 d], .box b3 103 [.slice ar (st' ++ kids (d + 1) u.args l).length cr], .row (.slice ar (st' ++ kids (d + 1) u.args l).length cr) 102 3 (st' ++ kids (d + 1) u.args l).length xs] ∧ RowK I' xs (st' ++ kids (d + 1) u.args l)) rfl rfl pl86 rfl (back_iter hub hua) (List.Perm.refl _) ⟨ar, cr, _, by simp [kids]; rfl, by simpa [kids] using hrow'.mono (Imm.le_trans hI29 hI34)⟩ (by rintro _ _ _ ⟨_, rfl⟩; rfl) (by rintro l I1 I2 _ hle ⟨ar, cr, xs, rfl, hr⟩; exact ⟨ar, cr, xs, rfl, hr.mono hle⟩) ?_ ?_
    · rintro l r w1 pre2 j post2 I2 _ _ hrs hrp hx2 hI2 ⟨ar, cr, xs, rfl, hrow2⟩ ⟨hjl, rfl⟩
      have hpl := congrArg List.length hx2
      have hk2 : (st' ++ kids (d + 1) u.args pre2).length = st'.length + pre2.length := by simp [kids]
      have hk3 : st' ++ kids (d + 1) u.args (pre2 ++ [j]) = (st' ++ kids (d + 1) u.args pre2) ++ [(d + 1, u.args[j])] := by simp [kids, hjl]
      have hd1 : (d : Int) + 1 = ((d + 1 : Nat) : Int) := by omega
      simp only [List.length_reverse, List.length_range, List.length_append, List.length_cons] at hpl
      refine code_region ?_
      refine o_alloc z24 rfl rfl (fun b6 => ?_)
      refine o_store ty24 rfl rfl rfl rfl rfl (by first | exact Swap.here | exact Swap.there Swap.here | exact Swap.there (Swap.there Swap.here) | exact Swap.there (Swap.there (Swap.there Swap.here)) | exact Swap.there (Swap.there (Swap.there (Swap.there Swap.here))) | exact Swap.there (Swap.there (Swap.there (Swap.there (Swap.there Swap.here))))) rfl ?_
      refine ops_nil ?_
      refine post_begin hrs (Swap.there Swap.here) ?_
      refine code_block ?_
      refine code_region ?_
      refine op_v (v_load ty103 rfl (by first | exact Has.here | exact Has.there Has.here | exact Has.there (Has.there Has.here) | exact Has.there (Has.there (Has.there Has.here)) | exact Has.there (Has.there (Has.there (Has.there Has.here))) | exact Has.there (Has.there (Has.there (Has.there (Has.there Has.here)))) | exact Has.there (Has.there (Has.there (Has.there (Has.there (Has.there Has.here)))))) rfl) rfl ?_
      refine op_v (v_load ty24 rfl (by first | exact Has.here | exact Has.there Has.here | exact Has.there (Has.there Has.here) | exact Has.there (Has.there (Has.there Has.here)) | exact Has.there (Has.there (Has.there (Has.there Has.here))) | exact Has.there (Has.there (Has.there (Has.there (Has.there Has.here)))) | exact Has.there (Has.there (Has.there (Has.there (Has.there (Has.there Has.here)))))) rfl) rfl ?_
      first | refine op_v (v_fieldB 2 Try.underlying102 rfl rfl fz3 rfl) rfl ?_ | refine op_v (v_fieldI 2 Try.underlying102 rfl rfl fz3 rfl (by assumption)) rfl ?_ | refine op_v (v_field Try.underlying102 rfl fz3 rfl rfl) rfl ?_
      refine op_v (v_load ty3 rfl (by first | exact Has.here | exact Has.there Has.here | exact Has.there (Has.there Has.here) | exact Has.there (Has.there (Has.there Has.here)) | exact Has.there (Has.there (Has.there (Has.there Has.here))) | exact Has.there (Has.there (Has.there (Has.there (Has.there Has.here)))) | exact Has.there (Has.there (Has.there (Has.there (Has.there (Has.there Has.here)))))) rfl) rfl ?_
      first | refine op_v (v_addb rfl rfl rfl (by omega)) rfl ?_ | refine op_v (v_add rfl rfl) rfl ?_
      rw [hd1]
      refine op_v (v_build bl102 rfl rfl) rfl ?_
      refine o_buildSlice (xs := [(Go.Operand.tmp 42)]) Try.underlying103 bs102 rfl rfl rfl rfl rfl (fun b43 => ?_)
      refine o_append Try.underlying103 bs102 rfl rfl rfl (fun v' => by first | exact Swap.here | exact Swap.there Swap.here | exact Swap.there (Swap.there Swap.here) | exact Swap.there (Swap.there (Swap.there Swap.here)) | exact Swap.there (Swap.there (Swap.there (Swap.there Swap.here))) | exact Swap.there (Swap.there (Swap.there (Swap.there (Swap.there Swap.here))))) (Src.ofRow (by first | exact Has.here | exact Has.there Has.here | exact Has.there (Has.there Has.here) | exact Has.there (Has.there (Has.there Has.here)) | exact Has.there (Has.there (Has.there (Has.there Has.here))) | exact Has.there (Has.there (Has.there (Has.there (Has.there Has.here)))) | exact Has.there (Has.there (Has.there (Has.there (Has.there (Has.there Has.here)))))) rfl) (by first | rfl | omega | simp) (by simp [cat, cellsL, Value.oneCell']) (by omega) (by omega) (fun a44 c44 => ?_)
      refine o_store ty103 rfl rfl rfl rfl rfl (by first | exact Swap.here | exact Swap.there Swap.here | exact Swap.there (Swap.there Swap.here) | exact Swap.there (Swap.there (Swap.there Swap.here)) | exact Swap.there (Swap.there (Swap.there (Swap.there Swap.here))) | exact Swap.there (Swap.there (Swap.there (Swap.there (Swap.there Swap.here))))) rfl ?_
      refine ops_nil ?_
      refine post_out ?_
      refine PostJ.view ((View.drop Del.here).trans (View.drop Del.here)) ?_
      refine post_round Swap.here hrs hrp ⟨rfl, _, rfl, a44, c44, xs ++ [.int .i64 u.args[j].head, .slice (ss j).1 u.args[j].args.length (ss j).2, .int .i64 ((d + 1 : Nat) : Int)], ?_, ?_⟩
      · rw [hk3]; simp only [List.length_append, List.length_cons, List.length_nil]; rfl
      · rw [hk3]; exact hrow2.app (RowK.one ((husub j hjl).mono hI2))
    · rintro blk I3 _ hI3 ⟨ar, cr, xs, rfl, hrow3⟩
      refine post_out ?_
      refine post_out ?_
      refine PostJ.view ((View.drop (Del.there Del.here)).trans ((View.drop (Del.there Del.here)).trans (View.perm (List.perm_middle (l₁ := [_, _, _])).symm))) ?_
      refine post_againD (partsS (st' ++ kids (d + 1) u.args (List.range u.args.length).reverse)).length [(0, yv), (1, .pointer (some ⟨b, 0, none⟩)), (3, .pointer (some ⟨b3, 0, none⟩))] ?_ ⟨pre ++ [(d, u)], _, ar, cr, xs, δ29, rfl, rfl, Imm.le_trans hI0 (Imm.le_trans hI29 (Imm.le_trans hI34 hI3)), rfl, ?_, hrow3, ?_⟩ ⟨rfl, rfl, rfl, trivial⟩
      · rw [partsS_app, partsS_kids, partsS_snoc, partsT_eq]; simp
      · exact hmono _ _ _ _ (Imm.le_trans hI34 hI3) hJ29
      · rw [partsS_app, partsS_kids]; simpa using hall
  · have hst : st = [] := by simpa using hc0
    subst hst
    have hp : pre = partsT 1 t := by simpa [partsS] using hall
    subst hp
    refine code_exit ?_
    refine post_exit_then ?_
    refine post_exit_then ?_
    refine post_exit ?_
    refine post_end (rs := []) rfl (List.perm_append_comm_assoc [_, _, _] _ _) .nil (List.Sublist.cons _ (List.Sublist.cons _ (List.Sublist.refl _))) ⟨δJ, hJ, rfl⟩
end Go.Proofs.Ytdcklngleglbbaa
