/- Walks: another part put at a place, by the program. -/
import Derived.Test.YtdcklngleglbbaaWk
set_option linter.unusedVariables false
set_option linter.unusedSimpArgs false
namespace Go.Proofs.Ytdcklngleglbbaa
open Go Lg

theorem Put_does (p : List Int) (t w : T) (I : Imm) (v vp vw : Value) (hv : RepT I v t) (hp : RInts I vp p) (hw : RepT I vw w) :
    Does Try.prog 20 [v, vp, vw] I [] (fun v I' δ' => PutR t p w v I' ∧ δ' = []) := by
  obtain ⟨ad, c, rfl, hr0⟩ := hv.shape
  obtain ⟨wd, wc, rfl, hwr⟩ := hw.shape
  obtain ⟨pd, e, p, hpc, hpb, hpat, hpr⟩ := hp
  refine Does.intro Try.func20 rfl Try.ntmps20 rfl fun w0 => ?_
  refine code_seq ?_
  refine code_region ?_
  refine o_box rfl rfl rfl (fun b3 => ?_)
  refine o_box rfl rfl rfl (fun b5 => ?_)
  refine o_alloc z24 rfl rfl (fun b6 => ?_)
  refine op_v (v_assign rfl) rfl ?_
  refine ops_nil ?_
  refine post_next ?_
  refine code_seq ?_
  refine code_seq ?_
  refine code_region ?_
  refine op_v (v_load ty24 rfl (by first | exact Has.here | exact Has.there Has.here | exact Has.there (Has.there Has.here) | exact Has.there (Has.there (Has.there Has.here)) | exact Has.there (Has.there (Has.there (Has.there Has.here))) | exact Has.there (Has.there (Has.there (Has.there (Has.there Has.here)))) | exact Has.there (Has.there (Has.there (Has.there (Has.there (Has.there Has.here)))))) rfl) rfl ?_
  refine op_v (v_move rfl) rfl ?_
  refine op_call pl18 rfl rfl ((At_does p t I _ _ hv ⟨pd, e, p, hpc, hpb, hpat, hpr⟩)) Parts.none ?_
  rintro v17 I17 _ hI17 ⟨⟨u17, rfl, hu17⟩, rfl⟩
  obtain ⟨p17, q17, rfl, _⟩ := hu17.shape
  refine op_v (v_move rfl) rfl ?_
  refine op_v (v_extract rfl rfl) rfl ?_
  refine op_v (v_extract rfl rfl) rfl ?_
  refine o_alloc z24 rfl rfl (fun b8 => ?_)
  refine o_store ty24 rfl rfl rfl rfl rfl (by first | exact Swap.here | exact Swap.there Swap.here | exact Swap.there (Swap.there Swap.here) | exact Swap.there (Swap.there (Swap.there Swap.here)) | exact Swap.there (Swap.there (Swap.there (Swap.there Swap.here))) | exact Swap.there (Swap.there (Swap.there (Swap.there (Swap.there Swap.here))))) rfl ?_
  refine op_v (v_assign rfl) rfl ?_
  refine ops_nil ?_
  refine post_next ?_
  refine code_seq ?_
  refine code_region ?_
  refine op_v (v_move rfl) rfl ?_
  by_cases hs : (atT t p).isSome = true
  · rw [hs]
    refine op_v (v_not rfl) rfl ?_
    refine ops_nil ?_
    refine post_next ?_
    refine code_cond_f rfl ?_
    refine code_skip ?_
    refine post_next ?_
    refine code_seq ?_
    refine code_region ?_
    refine op_v (v_load ty24 rfl (by first | exact Has.here | exact Has.there Has.here | exact Has.there (Has.there Has.here) | exact Has.there (Has.there (Has.there Has.here)) | exact Has.there (Has.there (Has.there (Has.there Has.here))) | exact Has.there (Has.there (Has.there (Has.there (Has.there Has.here)))) | exact Has.there (Has.there (Has.there (Has.there (Has.there (Has.there Has.here)))))) rfl) rfl ?_
    refine o_alloc z24 rfl rfl (fun b10 => ?_)
    refine o_store ty24 rfl rfl rfl rfl rfl (by first | exact Swap.here | exact Swap.there Swap.here | exact Swap.there (Swap.there Swap.here) | exact Swap.there (Swap.there (Swap.there Swap.here)) | exact Swap.there (Swap.there (Swap.there (Swap.there Swap.here))) | exact Swap.there (Swap.there (Swap.there (Swap.there (Swap.there Swap.here))))) rfl ?_
    refine ops_nil ?_
    refine post_next ?_
    refine code_seq ?_
    refine code_region ?_
    refine op_v (v_assign rfl) rfl ?_
    refine ops_nil ?_
    refine post_next ?_
    refine code_seq ?_
    refine code_seq ?_
    refine code_region ?_
    refine op_v (v_move rfl) rfl ?_
    refine op_v (v_len Try.underlying25 rfl) rfl ?_
    refine op_v (v_move rfl) rfl ?_
    refine ops_nil ?_
    refine post_next ?_
    refine code_block ?_
    refine CodeJ.view (View.drop (Del.there Del.here)) ?_
    refine code_loop (fun m σ' I' δ' => ∃ (k : Nat) (b off : Nat) (cs : List Value) (u : T) (ud : Option Addr) (uc : Nat), m = p.length - k ∧ k ≤ p.length ∧ σ' = [(5, .pointer (some ⟨b5, 0, none⟩)), (6, .pointer (some ⟨b6, 0, none⟩)), (10, .pointer (some ⟨b10, 0, none⟩)), (11, .pointer (some ⟨b, off, none⟩)), (24, .slice pd p.length e), (25, .int .i64 p.length), (26, .int .i64 k)] ∧ I17.le I' ∧ δ' = [.box b 24 cs, .box b6 24 [.int .i64 0, .slice none 0 0], .box b5 24 [.int .i64 w.head, .slice wd w.args.length wc], .box b3 24 [.int .i64 t.head, .slice ad t.args.length c]] ∧ cs[off]? = some (.int .i64 u.head) ∧ cs[off + 1]? = some (.slice ud u.args.length uc) ∧ RepT I' (.agg #[.int .i64 u.head, .slice ud u.args.length uc]) u ∧ atT t (p.take k) = some u ∧ Hole t (p.take k) b10 b off cs I') p.length [(5, .pointer (some ⟨b5, 0, none⟩)), (6, .pointer (some ⟨b6, 0, none⟩)), (10, .pointer (some ⟨b10, 0, none⟩)), (11, .pointer (some ⟨b10, 0, none⟩)), (24, .slice pd p.length e), (25, .int .i64 p.length), (26, .int .i64 (0 : Nat))] ⟨0, b10, 0, _, t, ad, c, rfl, Nat.zero_le _, rfl, Imm.le_refl _, rfl, rfl, rfl, hv.mono hI17, rfl, Hole.start⟩ ⟨rfl, rfl, rfl, rfl, rfl, rfl, rfl, trivial⟩ ?_
    rintro m _ I0 _ ⟨k, b, off, cs, u, ud, uc, rfl, hk, rfl, hI0, rfl, hc0', hc1', hu, hatu, hole⟩
    obtain ⟨_, _, hur, huc, hub, ss, hua, husub⟩ := hu.open
    refine code_seq ?_
    refine code_region ?_
    first | refine op_v (v_cmpt rfl rfl rfl (by first | omega | (simp; done) | (simp; omega))) rfl ?_ | refine op_v (v_cmpf rfl rfl rfl (by first | omega | (simp; done) | (simp; omega))) rfl ?_ | refine op_v (v_cmp rfl rfl rfl) rfl ?_
    refine ops_nil ?_
    refine post_next ?_
    refine code_seq ?_
    refine code_cond rfl (fun hc1 => ?_) (fun hc1 => ?_)
    · have hlt : k < p.length := by simpa using hc1
      have hs1 := ints_some hpat k hlt
      have htk : p.take (k + 1) = p.take k ++ [p[k]] := List.take_succ_eq_append_getElem hlt
      have hsome : (atT u (p.drop k)).isSome = true := by
        have h1 := hs
        rw [← List.take_append_drop k p, atT_app, hatu] at h1
        exact h1
      rw [List.drop_eq_getElem_cons hlt] at hsome
      obtain ⟨i, hi, hil, _⟩ := atT_cons hsome
      obtain ⟨hua1, hua2⟩ := RowT.of hua husub
      refine code_skip ?_
      refine post_next ?_
      refine code_seq ?_
      refine code_block ?_
      refine code_seq ?_
      refine code_region ?_
      first | refine op_v (v_index Try.underlying25 sz3 rfl rfl (by omega) (by assumption)) rfl ?_ | refine op_v (v_indexI Try.underlying25 sz3 rfl rfl (by first | omega | (simp; done) | (simp; omega)) (by first | omega | (simp; done) | (simp; omega)) (by assumption)) rfl ?_
      first | refine op_v (v_loadI0 ty3 ((ints_at hpat k hlt).mono (Imm.le_trans hI17 hI0)) rfl rfl rfl) rfl ?_ | refine op_v (v_loadI ty3 ((ints_at hpat k hlt).mono (Imm.le_trans hI17 hI0)) rfl rfl rfl) rfl ?_
      refine op_v (v_assign rfl) rfl ?_
      refine ops_nil ?_
      refine post_next ?_
      refine code_seq ?_
      refine code_region ?_
      refine op_v (v_move rfl) rfl ?_
      refine op_v (v_move rfl) rfl ?_
      refine op_v (v_nilCheck rfl) rfl ?_
      first | refine op_v (v_fieldB 1 Try.underlying24 rfl rfl fz22 rfl) rfl ?_ | refine op_v (v_fieldI 1 Try.underlying24 rfl rfl fz22 rfl (by assumption)) rfl ?_ | refine op_v (v_field Try.underlying24 rfl fz22 rfl rfl) rfl ?_
      refine op_v (v_load ty22 rfl Has.here (ld_one hc1')) rfl ?_
      refine op_call pl51 rfl rfl ((Clone_does _ hua1 (rowsT_length _ _) (rowsT_one _ _) hub)) Parts.none ?_
      rintro v35 I35 _ hI35 ⟨g0, c35, rfl, rfl⟩
      refine op_v (v_nilCheck rfl) rfl ?_
      first | refine op_v (v_fieldB 1 Try.underlying24 rfl rfl fz22 rfl) rfl ?_ | refine op_v (v_fieldI 1 Try.underlying24 rfl rfl fz22 rfl (by assumption)) rfl ?_ | refine op_v (v_field Try.underlying24 rfl fz22 rfl rfl) rfl ?_
      refine o_store ty22 rfl rfl rfl rfl rfl (Swap.there Swap.here) (stL_one hc1') ?_
      refine ops_nil ?_
      refine post_next ?_
      refine code_region ?_
      refine OpsJ.rowBox Del.here (by omega) ?_
      rintro g cap cs3 hveq hcap hlen3 htk3
      cases hveq
      have hset := List.getElem?_set_self (l := cs) (i := off + 1) (a := Value.slice (some ⟨g, 0, none⟩) u.args.length c35) (List.getElem?_eq_some_iff.1 hc1').1
      refine op_v (v_move rfl) rfl ?_
      refine op_v (v_nilCheck rfl) rfl ?_
      first | refine op_v (v_fieldB 1 Try.underlying24 rfl rfl fz22 rfl) rfl ?_ | refine op_v (v_fieldI 1 Try.underlying24 rfl rfl fz22 rfl (by assumption)) rfl ?_ | refine op_v (v_field Try.underlying24 rfl fz22 rfl rfl) rfl ?_
      refine op_v (v_load ty22 rfl (Has.there Has.here) (ld_one hset)) rfl ?_
      rw [hi]
      refine op_v (v_move rfl) rfl ?_
      refine op_v (v_index Try.underlying22 sz24 rfl rfl hil rfl) rfl ?_
      have hpa : pa (some ⟨g, 0, none⟩) (i * 2) = .pointer (some ⟨g, i * 2, none⟩) := by simp [pa, add_plain]
      rw [hpa]
      refine op_v (v_assign rfl) rfl ?_
      refine ops_nil ?_
      refine post_out ?_
      refine post_next ?_
      refine code_region ?_
      refine OpsJ.freezeBox (Del.there Del.here) ?_
      rintro I44 hI44 hb44
      first | refine op_v (v_addb rfl rfl rfl (by omega)) rfl ?_ | refine op_v (v_add rfl rfl) rfl ?_
      refine op_v (v_move rfl) rfl ?_
      refine ops_nil ?_
      have hr2 := rowsT_at u.args ss i hil
      rw [← htk3, List.getElem?_take_of_lt (by omega), List.getElem?_take_of_lt (by omega)] at hr2
      refine post_again (p.length - (k + 1)) [(5, .pointer (some ⟨b5, 0, none⟩)), (6, .pointer (some ⟨b6, 0, none⟩)), (10, .pointer (some ⟨b10, 0, none⟩)), (11, .pointer (some ⟨g, i * 2, none⟩)), (24, .slice pd p.length e), (25, .int .i64 p.length), (26, .int .i64 ((k + 1 : Nat) : Int))] (by omega) ⟨k + 1, g, i * 2, cs3, u.args[i], (ss i).1, (ss i).2, rfl, hlt, rfl, Imm.le_trans hI0 (Imm.le_trans hI35 hI44), rfl, hr2.1, hr2.2, (husub i hil).mono (Imm.le_trans hI35 hI44), ?_, ?_⟩ ⟨rfl, rfl, rfl, rfl, rfl, rfl, rfl, trivial⟩
      · rw [htk, hi, atT_app, hatu]
        exact atT_one hil
      · rw [htk, hi]
        exact Hole.step hole (Imm.le_trans hI35 hI44) hatu rfl hb44 hc0' hur hcap hub htk3 (hua2.mono (Imm.le_trans hI35 hI44)) hil
    · have hge : k = p.length := by simp at hc1; omega
      subst hge
      rw [List.take_length] at hatu hole
      refine code_exit ?_
      refine post_exit_then ?_
      refine post_exit_then ?_
      refine post_exit ?_
      refine post_next ?_
      refine code_seq ?_
      refine code_region ?_
      refine op_v (v_move rfl) rfl ?_
      refine op_v (v_load ty24 rfl (by first | exact Has.here | exact Has.there Has.here | exact Has.there (Has.there Has.here) | exact Has.there (Has.there (Has.there Has.here)) | exact Has.there (Has.there (Has.there (Has.there Has.here))) | exact Has.there (Has.there (Has.there (Has.there (Has.there Has.here)))) | exact Has.there (Has.there (Has.there (Has.there (Has.there (Has.there Has.here)))))) rfl) rfl ?_
      refine op_v (v_nilCheck rfl) rfl ?_
      refine o_store ty24 rfl rfl rfl rfl rfl Swap.here (stL_two hc0' hc1') ?_
      refine OpsJ.freezeBox Del.here ?_
      rintro I12 hI12 hb12
      obtain ⟨v0, v1, hb0, hrep⟩ := hole I12 w wd wc hI12 hb12 (hw.mono (Imm.le_trans hI17 (Imm.le_trans hI0 hI12)))
      obtain ⟨x0, x1, hx, _⟩ := hrep.shape
      simp at hx
      obtain ⟨rfl, rfl⟩ := hx
      refine ops_nil ?_
      refine post_next ?_
      refine code_seq ?_
      refine code_region ?_
      refine op_v (v_loadI0 (ad := some ⟨b10, 0, none⟩) (m := 0) ty24 ((cells_of (cs := [_, _]) hb0 2).at 0 fun j v hj => by simpa using hj) rfl rfl rfl) rfl ?_
      refine o_store ty24 rfl rfl rfl rfl rfl (by first | exact Swap.here | exact Swap.there Swap.here | exact Swap.there (Swap.there Swap.here) | exact Swap.there (Swap.there (Swap.there Swap.here)) | exact Swap.there (Swap.there (Swap.there (Swap.there Swap.here))) | exact Swap.there (Swap.there (Swap.there (Swap.there (Swap.there Swap.here))))) rfl ?_
      refine op_v (v_assign rfl) rfl ?_
      refine ops_nil ?_
      refine post_next ?_
      refine code_ret ?_
      refine post_ret (rs := [.cell 6 24, .tmp 7]) rfl (List.Perm.refl _) (.cons (.cell rfl ty24 (by first | exact Has.here | exact Has.there Has.here | exact Has.there (Has.there Has.here) | exact Has.there (Has.there (Has.there Has.here)) | exact Has.there (Has.there (Has.there (Has.there Has.here))) | exact Has.there (Has.there (Has.there (Has.there (Has.there Has.here)))) | exact Has.there (Has.there (Has.there (Has.there (Has.there (Has.there Has.here)))))) rfl) (.cons (.tmp rfl) .nil)) (List.nil_sublist _) ?_
      exact ⟨⟨_, by rw [hs]; rfl, by rw [hs]; exact hrep⟩, rfl⟩
  · have hs' : (atT t p).isSome = false := by simpa using hs
    rw [hs']
    refine op_v (v_not rfl) rfl ?_
    refine ops_nil ?_
    refine post_next ?_
    refine code_cond_t rfl ?_
    refine code_seq ?_
    refine code_region ?_
    refine op_v (v_build bl24 rfl rfl) rfl ?_
    refine o_store ty24 rfl rfl rfl rfl rfl (by first | exact Swap.here | exact Swap.there Swap.here | exact Swap.there (Swap.there Swap.here) | exact Swap.there (Swap.there (Swap.there Swap.here)) | exact Swap.there (Swap.there (Swap.there (Swap.there Swap.here))) | exact Swap.there (Swap.there (Swap.there (Swap.there (Swap.there Swap.here))))) rfl ?_
    refine op_v (v_assign rfl) rfl ?_
    refine ops_nil ?_
    refine post_next ?_
    refine code_ret ?_
    refine post_ret_then ?_
    refine post_ret (rs := [.cell 6 24, .tmp 7]) rfl (List.Perm.refl _) (.cons (.cell rfl ty24 (by first | exact Has.here | exact Has.there Has.here | exact Has.there (Has.there Has.here) | exact Has.there (Has.there (Has.there Has.here)) | exact Has.there (Has.there (Has.there (Has.there Has.here))) | exact Has.there (Has.there (Has.there (Has.there (Has.there Has.here)))) | exact Has.there (Has.there (Has.there (Has.there (Has.there (Has.there Has.here)))))) rfl) (.cons (.tmp rfl) .nil)) (List.nil_sublist _) ?_
    exact ⟨⟨_, by rw [hs']; rfl, by rw [hs']; exact zeroT_rep _⟩, rfl⟩
end Go.Proofs.Ytdcklngleglbbaa
