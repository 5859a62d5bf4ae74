/- Walks: all places of a term, by the program. -/
import Derived.Test.YtdcklngleglbbaaWh
set_option linter.unusedVariables false
set_option linter.unusedSimpArgs false
namespace Go.Proofs.Ytdcklngleglbbaa
open Go Lg

theorem walk_does : ∀ (n : Nat) (t : T), t.size ≤ n → ∀ (p : List Int) (cur : List (List Int)), p.length + t.size ≤ 1000000000 → cur.length + t.size ≤ 1000000000 →
    ∀ (I : Imm) (v vp : Value) (ba bw : Nat) (ar : Option Addr) (cr : Nat) (xs : List Value), RepT I v t → RInts I vp p → RowP I xs cur →
    Does Try.prog 54 [v, vp, .pointer (some ⟨ba, 0, none⟩), .pointer (some ⟨bw, 0, none⟩)] I
      [.row (.slice ar cur.length cr) 25 1 cur.length xs, .box ba 36 [.slice ar cur.length cr], .box bw 70 [.func (.func 54) #[] #[.pointer (some ⟨ba, 0, none⟩), .pointer (some ⟨bw, 0, none⟩)]]]
      (fun _ I' δ' => ∃ (out : List (List Int)) (ar' : Option Addr) (cr' : Nat) (xs' : List Value), out = cur ++ (allT t).map (p ++ ·) ∧ RowP I' xs' out ∧ δ' = [.row (.slice ar' out.length cr') 25 1 out.length xs', .box ba 36 [.slice ar' out.length cr'], .box bw 70 [.func (.func 54) #[] #[.pointer (some ⟨ba, 0, none⟩), .pointer (some ⟨bw, 0, none⟩)]]]) := by
  intro n
  induction n with
  | zero => intro t ht; have := t.size_pos; omega
  | succ n ih =>
    intro t ht p cur hpl hcl I v vp ba bw ar cr xs hv hp hx
    obtain ⟨h, ts⟩ := t
    obtain ⟨ad, c, ss, rfl, hr, hc, hb, hat, hsub⟩ := hv.elim
    have hsz : (T.mk h ts).size = 1 + sizeL ts := by simp [T.size]
    have hAl := allT_length (.mk h ts)
    have hsl := sizeL_len ts
    refine Does.intro Try.func54 rfl Try.ntmps54 rfl fun w0 => ?_
    refine code_seq ?_
    refine code_region ?_
    refine o_box rfl rfl rfl (fun b4 => ?_)
    refine ops_nil ?_
    refine post_next ?_
    refine code_seq ?_
    refine code_draw (.fl 0 (.fl 1 (.ef 2 (.ef 3 (.ef 4 (.ef 5 .done)))))) (fun _ => [.box ba 36 [.slice ar cur.length cr]]) mixed (by kernel_rfl) (by kernel_rfl) (fun _ => (List.Sublist.cons _ (List.Sublist.cons _ (List.Sublist.cons_cons _ (List.nil_sublist _))))) ?_
    refine e_float rfl rfl (fun hs_ => PF.mk rfl (v_load ty36 rfl (by first | exact Has.here | exact Has.there Has.here | exact Has.there (Has.there Has.here) | exact Has.there (Has.there (Has.there Has.here)) | exact Has.there (Has.there (Has.there (Has.there Has.here))) | exact Has.there (Has.there (Has.there (Has.there (Has.there Has.here)))) | exact Has.there (Has.there (Has.there (Has.there (Has.there (Has.there Has.here)))))) rfl) hs_) (by repeat (first | exact Imm.le_refl _ | assumption | refine Imm.le_trans ?_ (by assumption))) (by intro x hx; first | exact hx | exact List.mem_cons_of_mem _ hx | exact List.mem_append_right _ hx | (simp only [List.mem_cons, List.not_mem_nil, or_false] at hx; repeat' (first | (subst hx; simp [cellsL]; done) | rcases hx with hx | hx)) | simp_all) ?_
    refine e_float rfl rfl (fun hs_ => PF.mk rfl (v_move rfl) hs_) (by repeat (first | exact Imm.le_refl _ | assumption | refine Imm.le_trans ?_ (by assumption))) (by intro x hx; first | exact hx | exact List.mem_cons_of_mem _ hx | exact List.mem_append_right _ hx | (simp only [List.mem_cons, List.not_mem_nil, or_false] at hx; repeat' (first | (subst hx; simp [cellsL]; done) | rcases hx with hx | hx)) | simp_all) ?_
    refine e_eff rfl (by intro cs b hc; cases hc) (by intro c hc; cases hc) ?_
    refine op_call pl55 rfl rfl ((row_does hp (RInts.nil _) (by simp; omega))) Parts.none ?_
    rintro v10 I10 _ hI10 ⟨hv10, rfl⟩
    rw [List.append_nil] at hv10
    obtain ⟨rd, rc, rfl⟩ := hv10.shape
    refine ops_nil ?_
    refine e_next rfl (side_all (by repeat (first | exact Imm.le_refl _ | assumption | refine Imm.le_trans ?_ (by assumption))) (fun _ => (by intro x hx; first | exact hx | exact List.mem_cons_of_mem _ hx | exact List.mem_append_right _ hx | (simp only [List.mem_cons, List.not_mem_nil, or_false] at hx; repeat' (first | (subst hx; simp [cellsL]; done) | rcases hx with hx | hx)) | simp_all))) ?_
    refine e_eff rfl (by intro cs b hc; cases hc) (by intro c hc; cases hc) ?_
    refine o_buildSlice (xs := [(Go.Operand.tmp 10)]) Try.underlying36 bs25 rfl rfl rfl rfl rfl (fun b11 => ?_)
    refine ops_nil ?_
    refine e_next rfl (side_all (by repeat (first | exact Imm.le_refl _ | assumption | refine Imm.le_trans ?_ (by assumption))) (fun _ => (by intro x hx; first | exact hx | exact List.mem_cons_of_mem _ hx | exact List.mem_append_right _ hx | (simp only [List.mem_cons, List.not_mem_nil, or_false] at hx; repeat' (first | (subst hx; simp [cellsL]; done) | rcases hx with hx | hx)) | simp_all))) ?_
    refine e_eff rfl (by intro cs b hc; cases hc) (by intro c hc; cases hc) ?_
    refine o_append Try.underlying36 bs25 rfl rfl rfl (fun v' => by first | exact Swap.here | exact Swap.there Swap.here | exact Swap.there (Swap.there Swap.here) | exact Swap.there (Swap.there (Swap.there Swap.here)) | exact Swap.there (Swap.there (Swap.there (Swap.there Swap.here))) | exact Swap.there (Swap.there (Swap.there (Swap.there (Swap.there Swap.here))))) (Src.ofRow (by first | exact Has.here | exact Has.there Has.here | exact Has.there (Has.there Has.here) | exact Has.there (Has.there (Has.there Has.here)) | exact Has.there (Has.there (Has.there (Has.there Has.here))) | exact Has.there (Has.there (Has.there (Has.there (Has.there Has.here)))) | exact Has.there (Has.there (Has.there (Has.there (Has.there (Has.there Has.here)))))) rfl) (by first | rfl | omega | simp) (by simp [cat, cellsL, Value.oneCell']) (by omega) (by omega) (fun a12 c12 => ?_)
    refine ops_nil ?_
    refine e_next rfl (side_nil (by kernel_rfl)) ?_
    refine e_eff rfl (by intro cs b hc; cases hc) (by intro c hc; cases hc) ?_
    refine o_store ty36 rfl rfl rfl rfl rfl (by first | exact Swap.here | exact Swap.there Swap.here | exact Swap.there (Swap.there Swap.here) | exact Swap.there (Swap.there (Swap.there Swap.here)) | exact Swap.there (Swap.there (Swap.there (Swap.there Swap.here))) | exact Swap.there (Swap.there (Swap.there (Swap.there (Swap.there Swap.here))))) rfl ?_
    refine ops_nil ?_
    refine e_next_ (side_nil (by kernel_rfl)) ?_
    refine e_done ?_
    refine post_next ?_
    refine code_seq ?_
    refine code_region ?_
    first | refine op_v (v_fieldB 1 Try.underlying24 rfl rfl fz22 rfl) rfl ?_ | refine op_v (v_fieldI 1 Try.underlying24 rfl rfl fz22 rfl (by assumption)) rfl ?_ | refine op_v (v_field Try.underlying24 rfl fz22 rfl rfl) rfl ?_
    refine op_v (v_load ty22 rfl (by first | exact Has.here | exact Has.there Has.here | exact Has.there (Has.there Has.here) | exact Has.there (Has.there (Has.there Has.here)) | exact Has.there (Has.there (Has.there (Has.there Has.here))) | exact Has.there (Has.there (Has.there (Has.there (Has.there Has.here)))) | exact Has.there (Has.there (Has.there (Has.there (Has.there (Has.there Has.here)))))) rfl) rfl ?_
    refine op_v (v_len Try.underlying22 rfl) rfl ?_
    refine op_v (v_move rfl) rfl ?_
    refine ops_nil ?_
    refine post_next ?_
    refine code_block ?_
    refine CodeJ.view ((View.drop Del.here).trans (View.perm (List.perm_append_comm (l₁ := [_]) (l₂ := [_, _, _])))) ?_
    have hlen : cur.length + 1 = (cur ++ [p]).length := by simp
    rw [hlen]
    refine code_loop (fun m σ' I' δ' => ∃ (k : Nat) (c2 : List (List Int)) (ar : Option Addr) (cr : Nat) (xs : List Value), m = ts.length - k ∧ k ≤ ts.length ∧ σ' = [(1, vp), (2, .pointer (some ⟨ba, 0, none⟩)), (3, .pointer (some ⟨bw, 0, none⟩)), (14, .slice ad ts.length c), (15, .int .i64 ts.length), (16, .int .i64 k)] ∧ I.le I' ∧ δ' = [.row (.slice ar c2.length cr) 25 1 c2.length xs, .box ba 36 [.slice ar c2.length cr], .box bw 70 [.func (.func 54) #[] #[.pointer (some ⟨ba, 0, none⟩), .pointer (some ⟨bw, 0, none⟩)]], .box b4 24 [.int .i64 h, .slice ad ts.length c]] ∧ RowP I' xs c2 ∧ c2 ++ (allL k (ts.drop k)).map (p ++ ·) = cur ++ (allT (.mk h ts)).map (p ++ ·)) ts.length [(1, vp), (2, .pointer (some ⟨ba, 0, none⟩)), (3, .pointer (some ⟨bw, 0, none⟩)), (14, .slice ad ts.length c), (15, .int .i64 ts.length), (16, .int .i64 (0 : Nat))] ⟨0, cur ++ [p], a12, c12, xs ++ [_], rfl, Nat.zero_le _, rfl, hI10, rfl, (hx.mono hI10).snoc hv10, by simp [allT]⟩ ⟨rfl, rfl, rfl, rfl, rfl, rfl, trivial⟩ ?_
    rintro m _ I0 _ ⟨k, c2, ar, cr, xs, rfl, hk, rfl, hI0, rfl, hrow, hall⟩
    refine code_seq ?_
    refine code_region ?_
    first | refine op_v (v_cmpt rfl rfl rfl (by first | omega | (simp; done) | (simp; omega))) rfl ?_ | refine op_v (v_cmpf rfl rfl rfl (by first | omega | (simp; done) | (simp; omega))) rfl ?_ | refine op_v (v_cmp rfl rfl rfl) rfl ?_
    refine ops_nil ?_
    refine post_next ?_
    refine code_seq ?_
    refine code_cond rfl (fun hc0 => ?_) (fun hc0 => ?_)
    · have hlt : k < ts.length := by simpa using hc0
      have hs1 := (hat k hlt).isSome
      have hm := sizeL_mem ts k hlt
      rw [allL_drop ts k hlt, List.map_append, ← List.append_assoc] at hall
      have hcl2 : c2.length + ts[k].size ≤ cur.length + (T.mk h ts).size := by
        have := congrArg List.length hall
        simp [allT_length] at this; omega
      refine code_skip ?_
      refine post_next ?_
      refine code_seq ?_
      refine code_block ?_
      refine code_seq ?_
      refine code_region ?_
      refine op_v (v_move rfl) rfl ?_
      first | refine op_v (v_index Try.underlying22 sz24 rfl rfl (by omega) (by assumption)) rfl ?_ | refine op_v (v_indexI Try.underlying22 sz24 rfl rfl (by first | omega | (simp; done) | (simp; omega)) (by first | omega | (simp; done) | (simp; omega)) (by assumption)) rfl ?_
      first | refine op_v (v_loadI0 ty24 ((hat k hlt).mono hI0) rfl rfl rfl) rfl ?_ | refine op_v (v_loadI ty24 ((hat k hlt).mono hI0) rfl rfl rfl) rfl ?_
      refine o_alloc z24 rfl rfl (fun b7 => ?_)
      refine op_v (v_assign rfl) rfl ?_
      refine o_store ty24 rfl rfl rfl rfl rfl (by first | exact Swap.here | exact Swap.there Swap.here | exact Swap.there (Swap.there Swap.here) | exact Swap.there (Swap.there (Swap.there Swap.here)) | exact Swap.there (Swap.there (Swap.there (Swap.there Swap.here))) | exact Swap.there (Swap.there (Swap.there (Swap.there (Swap.there Swap.here))))) rfl ?_
      refine ops_nil ?_
      refine post_next ?_
      refine code_draw (.fl 0 (.fl 1 (.fl 2 (.fl 3 (.ef 4 (.ef 5 (.ef 6 .done))))))) (fun _ => [.box b7 24 [.int .i64 ts[k].head, .slice (ss k).1 ts[k].args.length (ss k).2], .row (.slice ar c2.length cr) 25 1 c2.length xs, .box ba 36 [.slice ar c2.length cr], .box bw 70 [.func (.func 54) #[] #[.pointer (some ⟨ba, 0, none⟩), .pointer (some ⟨bw, 0, none⟩)]]]) mixed (by kernel_rfl) (by kernel_rfl) (fun _ => (List.Sublist.cons_cons _ (List.Sublist.cons_cons _ (List.Sublist.cons_cons _ (List.Sublist.cons_cons _ (List.nil_sublist _)))))) ?_
      refine e_float rfl rfl (fun hs_ => PF.mk rfl (v_load ty70 rfl (by first | exact Has.here | exact Has.there Has.here | exact Has.there (Has.there Has.here) | exact Has.there (Has.there (Has.there Has.here)) | exact Has.there (Has.there (Has.there (Has.there Has.here))) | exact Has.there (Has.there (Has.there (Has.there (Has.there Has.here)))) | exact Has.there (Has.there (Has.there (Has.there (Has.there (Has.there Has.here)))))) rfl) hs_) (by first | exact Imm.le_refl _ | assumption | exact Imm.le_trans hI25 hI26) (by intro x hx; simp only [List.mem_cons, List.not_mem_nil, or_false] at hx; rcases hx with rfl | rfl | rfl | rfl <;> simp) ?_
      refine e_float rfl rfl (fun hs_ => PF.mk rfl (v_load ty24 rfl (by first | exact Has.here | exact Has.there Has.here | exact Has.there (Has.there Has.here) | exact Has.there (Has.there (Has.there Has.here)) | exact Has.there (Has.there (Has.there (Has.there Has.here))) | exact Has.there (Has.there (Has.there (Has.there (Has.there Has.here)))) | exact Has.there (Has.there (Has.there (Has.there (Has.there (Has.there Has.here)))))) rfl) hs_) (by first | exact Imm.le_refl _ | assumption | exact Imm.le_trans hI25 hI26) (by intro x hx; simp only [List.mem_cons, List.not_mem_nil, or_false] at hx; rcases hx with rfl | rfl | rfl | rfl <;> simp) ?_
      refine e_float rfl rfl (fun hs_ => PF.mk rfl (v_move rfl) hs_) (by first | exact Imm.le_refl _ | assumption | exact Imm.le_trans hI25 hI26) (by intro x hx; simp only [List.mem_cons, List.not_mem_nil, or_false] at hx; rcases hx with rfl | rfl | rfl | rfl <;> simp) ?_
      refine e_float rfl rfl (fun hs_ => PF.mk rfl (v_move rfl) hs_) (by first | exact Imm.le_refl _ | assumption | exact Imm.le_trans hI25 hI26) (by intro x hx; simp only [List.mem_cons, List.not_mem_nil, or_false] at hx; rcases hx with rfl | rfl | rfl | rfl <;> simp) ?_
      refine e_eff rfl (by intro cs b hc; cases hc) (by intro c hc; cases hc) ?_
      refine o_buildSlice (xs := [(Go.Operand.tmp 24)]) Try.underlying25 bs3 rfl rfl rfl rfl rfl (fun b25 => ?_)
      refine OpsJ.freezeRow Del.here ?_
      rintro I25 ar25 cr25 hI25 hvr25 hcr25 hlr25 hcells25
      cases hvr25
      refine ops_nil ?_
      refine e_next rfl (side_all (by first | exact Imm.le_refl _ | assumption | exact Imm.le_trans hI25 hI26) (fun _ => (by intro x hx; simp only [List.mem_cons, List.not_mem_nil, or_false] at hx; rcases hx with rfl | rfl | rfl | rfl <;> simp))) ?_
      refine e_eff rfl (by intro cs b hc; cases hc) (by intro c hc; cases hc) ?_
      refine op_call pl55 rfl rfl ((row_does (hp.mono (Imm.le_trans hI0 hI25)) (RInts.of (xs := [(k : Int)]) rfl hcr25 (by omega) hcells25 (by intro x hx; simp at hx; subst hx; unfold InR; omega)) (by simp; omega))) Parts.none ?_
      rintro v26 I26 _ hI26 ⟨hv26, rfl⟩
      refine ops_nil ?_
      refine e_next rfl (side_all (by first | exact Imm.le_refl _ | assumption | exact Imm.le_trans hI25 hI26) (fun _ => (by intro x hx; simp only [List.mem_cons, List.not_mem_nil, or_false] at hx; rcases hx with rfl | rfl | rfl | rfl <;> simp))) ?_
      refine e_eff rfl (by intro cs b hc; cases hc) (by intro c hc; cases hc) ?_
      refine op_fcall rfl rfl rfl ((FDoes.ofFunc (caps := [.pointer (some ⟨ba, 0, none⟩), .pointer (some ⟨bw, 0, none⟩)]) pl54 (ih ts[k] (by omega) (p ++ [(k : Int)]) c2 (by simp; omega) (by omega) _ _ _ ba bw ar cr xs ((hsub k hlt).mono (Imm.le_trans hI0 (Imm.le_trans hI25 hI26))) hv26 (hrow.mono (Imm.le_trans hI25 hI26))))) (Parts.three (Del.there Del.here) (Del.there Del.here) (Del.there Del.here)) ?_
      rintro v27 I27 _ hI27 ⟨out, a27, c27, xs27, hout, hrow27, rfl⟩
      refine ops_nil ?_
      refine e_next rfl (side_nil (by kernel_rfl)) ?_
      refine e_done ?_
      refine post_out ?_
      refine post_next ?_
      refine code_region ?_
      first | refine op_v (v_addb rfl rfl rfl (by omega)) rfl ?_ | refine op_v (v_add rfl rfl) rfl ?_
      refine op_v (v_move rfl) rfl ?_
      refine ops_nil ?_
      refine PostJ.view (View.drop (Del.there (Del.there (Del.there Del.here)))) ?_
      refine post_again (ts.length - (k + 1)) [(1, vp), (2, .pointer (some ⟨ba, 0, none⟩)), (3, .pointer (some ⟨bw, 0, none⟩)), (14, .slice ad ts.length c), (15, .int .i64 ts.length), (16, .int .i64 ((k + 1 : Nat) : Int))] (by omega) ⟨k + 1, out, a27, c27, xs27, rfl, hlt, rfl, Imm.le_trans hI0 (Imm.le_trans hI25 (Imm.le_trans hI26 hI27)), rfl, hrow27, ?_⟩ ⟨rfl, rfl, rfl, rfl, rfl, rfl, trivial⟩
      rw [← hall, hout]
      simp
    · have hge : k = ts.length := by simp at hc0; omega
      subst hge
      rw [List.drop_length] at hall
      simp only [allL, List.map_nil, List.append_nil] at hall
      refine code_exit ?_
      refine post_exit_then ?_
      refine post_exit_then ?_
      refine post_exit ?_
      refine post_end (rs := []) rfl (List.Perm.refl _) .nil (List.Sublist.cons_cons _ (List.Sublist.cons_cons _ (List.Sublist.cons_cons _ (List.nil_sublist _)))) ⟨c2, ar, cr, xs, hall, hrow, rfl⟩

theorem All_does (t : T) (hbig : t.size ≤ 1000000000) (I : Imm) (v : Value) (hv : RepT I v t) :
    Does Try.prog 24 [v] I [] (fun v I' δ' => RPs I' v (allT t) ∧ δ' = []) := by
  obtain ⟨ad, c, rfl, hr0⟩ := hv.shape
  refine Does.intro Try.func24 rfl Try.ntmps24 rfl fun w0 => ?_
  refine code_seq ?_
  refine code_region ?_
  refine o_box rfl rfl rfl (fun b1 => ?_)
  refine op_v (v_assign rfl) rfl ?_
  refine ops_nil ?_
  refine post_next ?_
  refine code_seq ?_
  refine code_region ?_
  refine o_alloc z36 rfl rfl (fun b3 => ?_)
  refine ops_nil ?_
  refine post_next ?_
  refine code_seq ?_
  refine code_region ?_
  refine o_alloc z70 rfl rfl (fun b4 => ?_)
  refine ops_nil ?_
  refine post_next ?_
  refine code_seq ?_
  refine code_region ?_
  refine op_v (v_makeFunc rfl rfl) rfl ?_
  refine o_store ty70 rfl rfl rfl rfl rfl (by first | exact Swap.here | exact Swap.there Swap.here | exact Swap.there (Swap.there Swap.here) | exact Swap.there (Swap.there (Swap.there Swap.here)) | exact Swap.there (Swap.there (Swap.there (Swap.there Swap.here))) | exact Swap.there (Swap.there (Swap.there (Swap.there (Swap.there Swap.here))))) rfl ?_
  refine ops_nil ?_
  refine post_next ?_
  refine code_seq ?_
  refine code_region ?_
  refine op_v (v_load ty70 rfl (by first | exact Has.here | exact Has.there Has.here | exact Has.there (Has.there Has.here) | exact Has.there (Has.there (Has.there Has.here)) | exact Has.there (Has.there (Has.there (Has.there Has.here))) | exact Has.there (Has.there (Has.there (Has.there (Has.there Has.here)))) | exact Has.there (Has.there (Has.there (Has.there (Has.there (Has.there Has.here)))))) rfl) rfl ?_
  refine op_v (v_load ty24 rfl (by first | exact Has.here | exact Has.there Has.here | exact Has.there (Has.there Has.here) | exact Has.there (Has.there (Has.there Has.here)) | exact Has.there (Has.there (Has.there (Has.there Has.here))) | exact Has.there (Has.there (Has.there (Has.there (Has.there Has.here)))) | exact Has.there (Has.there (Has.there (Has.there (Has.there (Has.there Has.here)))))) rfl) rfl ?_
  refine OpsJ.view (View.nilRow 25 1) ?_
  refine op_fcall rfl rfl rfl ((FDoes.ofFunc (caps := [.pointer (some ⟨b3, 0, none⟩), .pointer (some ⟨b4, 0, none⟩)]) pl54 (walk_does t.size t (Nat.le_refl _) [] [] (by simpa using hbig) (by simpa using hbig) _ _ _ b3 b4 none 0 [] hv (RInts.nil _) (RowP.nil _)))) (Parts.three Del.here (Del.there Del.here) Del.here) ?_
  rintro v8 I8 _ hI8 ⟨out, a8, c8, xs8, hout, hrow8, rfl⟩
  refine ops_nil ?_
  refine post_next ?_
  refine code_seq ?_
  refine code_region ?_
  refine op_v (v_load ty36 rfl (by first | exact Has.here | exact Has.there Has.here | exact Has.there (Has.there Has.here) | exact Has.there (Has.there (Has.there Has.here)) | exact Has.there (Has.there (Has.there (Has.there Has.here))) | exact Has.there (Has.there (Has.there (Has.there (Has.there Has.here)))) | exact Has.there (Has.there (Has.there (Has.there (Has.there (Has.there Has.here)))))) rfl) rfl ?_
  refine OpsJ.freezeRow Del.here ?_
  rintro I9 ar cr hI9 hvr hcr hlr hcells
  cases hvr
  have ho : out = allT t := by simpa using hout
  subst ho
  refine op_v (v_assign rfl) rfl ?_
  refine ops_nil ?_
  refine post_next ?_
  refine code_ret ?_
  refine post_ret (rs := [.tmp 2]) rfl (List.Perm.refl _) (.cons (.tmp rfl) .nil) (List.nil_sublist _) ?_
  exact ⟨RPs.of rfl hcr (by rw [allT_length]; omega) hcells (hrow8.mono hI9), rfl⟩
end Go.Proofs.Ytdcklngleglbbaa
