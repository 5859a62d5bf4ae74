/- Walks: how often a term's variables stand in it. -/
import Derived.Test.YtdcklngleglbbaaGe
set_option linter.unusedVariables false
set_option linter.unusedSimpArgs false
namespace Go.Proofs.Ytdcklngleglbbaa
open Go Lg

/-- what the numbers are on the way, some entries still to come -/
def CInv (l0 : List Int) (left : Mp) (cs : List Int) : Prop :=
  cs.length ≤ 256 ∧ (∀ v : Nat, v < 256 → cs.getD v 0 = if mget left (-1 - (v : Int)) = none then ((l0.count (-1 - (v : Int)) : Nat) : Int) else 0) ∧ (∀ n, cs.length = n + 1 → cs.getD n 0 ≠ 0)
theorem mget_mid : ∀ {l q : Mp} {k : Int} {u : Value}, ((l ++ (k, u) :: q).map (·.1)).Nodup → ∀ j, mget (l ++ (k, u) :: q) j = if k = j then some u else mget (l ++ q) j
  | [], q, k, u, hn, j => by simp [mget]
  | (k', z) :: l, q, k, u, hn, j => by
    simp only [List.cons_append, List.map_cons, List.nodup_cons] at hn
    have hne : k' ≠ k := fun e => hn.1 (by subst e; simp)
    simp only [List.cons_append, mget, mget_mid hn.2 j]
    by_cases h : k' = j
    · subst h; rw [if_pos rfl, if_neg (fun e => hne e.symm), if_pos rfl]
    · rw [if_neg h, if_neg h]
theorem mget_ne {l q : Mp} {k : Int} {u : Value} {j : Int} (hn : ((l ++ (k, u) :: q).map (·.1)).Nodup) (h : k ≠ j) : mget (l ++ (k, u) :: q) j = mget (l ++ q) j := by rw [mget_mid hn, if_neg h]
theorem mid_none {l q : Mp} {k : Int} {u : Value} (hn : ((l ++ (k, u) :: q).map (·.1)).Nodup) : mget (l ++ q) k = none := by
  rw [mget_none]
  simp only [List.map_append, List.map_cons, List.nodup_append, List.nodup_cons] at hn
  obtain ⟨h1, ⟨h2, h3⟩, h4⟩ := hn
  intro hm
  rw [List.map_append, List.mem_append] at hm
  rcases hm with hm | hm
  · exact h4 k hm k (by simp) rfl
  · exact h2 hm
theorem mid_nodup {l q : Mp} {k : Int} {u : Value} (hn : ((l ++ (k, u) :: q).map (·.1)).Nodup) : ((l ++ q).map (·.1)).Nodup := by
  refine hn.sublist ?_
  rw [List.map_append, List.map_append, List.map_cons]
  exact List.Sublist.append (List.Sublist.refl _) (List.sublist_cons_self _ _)
theorem CInv.start (l0 : List Int) : CInv l0 (cntM l0) [] := by
  refine ⟨by simp, fun v _ => ?_, fun n h => by simp at h⟩
  rw [cntM_get]
  by_cases h : l0.count (-1 - (v : Int)) = 0
  · simp [h]
  · simp [h]
theorem CInv.skip {l0 : List Int} {l q : Mp} {k : Int} {u : Value} {cs : List Int} (hn : ((l ++ (k, u) :: q).map (·.1)).Nodup) (h : CInv l0 (l ++ (k, u) :: q) cs) (hk : -1 - k < 0 ∨ 255 < -1 - k) : CInv l0 (l ++ q) cs := by
  obtain ⟨h1, h2, h3⟩ := h
  refine ⟨h1, fun v hv => ?_, h3⟩
  rw [h2 v hv, mget_ne hn (by omega)]
theorem getD_ext (cs : List Int) (j v : Nat) : (cs ++ List.replicate j 0).getD v 0 = cs.getD v 0 := by
  simp only [List.getD_eq_getElem?_getD]
  by_cases h : v < cs.length
  · rw [List.getElem?_append_left h]
  · rw [List.getElem?_append_right (by omega), List.getElem?_replicate, List.getElem?_eq_none_iff.2 (by omega)]
    split <;> rfl
theorem CInv.step {l0 : List Int} {l q : Mp} {k : Int} {u : Value} {cs : List Int} {v j : Nat} (hn : ((l ++ (k, u) :: q).map (·.1)).Nodup) (h : CInv l0 (l ++ (k, u) :: q) cs) (hk : k = -1 - (v : Int)) (hv : v < 256) (hc : 0 < l0.count k) (hlen : v < cs.length + j) (hj : j = 0 ∨ cs.length + j = v + 1) :
    CInv l0 (l ++ q) ((cs ++ List.replicate j 0).set v (l0.count k : Nat)) := by
  obtain ⟨h1, h2, h3⟩ := h
  have hl : ((cs ++ List.replicate j (0 : Int)).set v ((l0.count k : Nat) : Int)).length = cs.length + j := by simp
  have hg : ∀ w : Nat, ((cs ++ List.replicate j (0 : Int)).set v ((l0.count k : Nat) : Int)).getD w 0 = if w = v then ((l0.count k : Nat) : Int) else cs.getD w 0 := fun w => by
    by_cases hw : w = v
    · subst hw
      rw [if_pos rfl, List.getD_eq_getElem?_getD, List.getElem?_set_self (by simp; omega)]; rfl
    · rw [if_neg hw, ← getD_ext cs j w, List.getD_eq_getElem?_getD, List.getElem?_set_ne (by omega), ← List.getD_eq_getElem?_getD]
  refine ⟨by rw [hl]; omega, fun w hw => ?_, fun n hn' => ?_⟩
  · rw [hg w]
    by_cases e : w = v
    · subst e
      rw [if_pos rfl, ← hk, mid_none hn, if_pos rfl]
    · rw [if_neg e, h2 w hw, mget_ne hn (by omega)]
  · rw [hl] at hn'
    rw [hg n]
    by_cases e : n = v
    · rw [if_pos e]; omega
    · rw [if_neg e]
      have hj0 : j = 0 := by omega
      exact h3 n (by omega)
theorem CInv.last {l0 : List Int} {cs : List Int} (h : CInv l0 [] cs) : ∀ v : Nat, v < 256 → cs.getD v 0 = ((l0.count (-1 - (v : Int)) : Nat) : Int) := fun v hv => by
  rw [h.2.1 v hv]; simp [mget]
theorem CInv.in {l0 : List Int} {left : Mp} {cs : List Int} (h : CInv l0 left cs) (hb : l0.length ≤ 1000000000) : ∀ x ∈ cs, InR x := by
  intro x hx
  obtain ⟨v, hv, rfl⟩ := List.getElem_of_mem hx
  have h1 := h.1
  have h2 := h.2.1 v (by omega)
  rw [List.getD_eq_getElem?_getD, List.getElem?_eq_getElem hv, Option.getD_some] at h2
  rw [h2]
  have := List.count_le_length (a := -1 - (v : Int)) (l := l0)
  unfold InR
  split <;> omega

mutual
theorem repT_heads0 : ∀ (t : T) {I : Imm} {v : Value}, RepT I v t → ∀ k ∈ (visT true t).map (·.2.head), InR k
  | .mk h us, I, v, hv, k, hk => by
    obtain ⟨ad, c, ss, rfl, hr, _, _, _, hsub⟩ := hv.elim
    simp only [visT, List.map_cons, List.mem_cons] at hk
    rcases hk with rfl | hk
    · exact hr
    · exact repL_heads0 us (fun i hi => ⟨I, _, hsub i hi⟩) k hk
theorem repL_heads0 : ∀ (us : List T), (∀ i (h : i < us.length), ∃ I v, RepT I v us[i]) → ∀ k ∈ (visL us).map (·.2.head), InR k
  | [], _, k, hk => by simp [visL] at hk
  | t :: r, h, k, hk => by
    simp only [visL, List.map_append, List.mem_append] at hk
    rcases hk with hk | hk
    · obtain ⟨I, v, hv⟩ := h 0 (by simp)
      refine repT_heads0 t hv k ?_
      rw [visT_eq] at hk ⊢
      exact hk
    · exact repL_heads0 r (fun i hi => h (i + 1) (by simpa using hi)) k hk
end
theorem repT_heads {I : Imm} {v : Value} {t : T} (hv : RepT I v t) {k : Int} (hk : k ∈ hds t) : InR k := repT_heads0 t hv k hk

theorem Counts_does {I : Imm} {v : Value} {t : T} (hv : RepT I v t) (hbig : t.size ≤ 1000000000) :
    Does Try.prog 48 [v] I [] (fun v I' δ' => (∃ cs, RInts I' v cs ∧ CInv (hds t) [] cs) ∧ δ' = []) := by
  obtain ⟨a0, c0, rfl, hr0⟩ := hv.shape
  have hhr : ∀ k ∈ hds t, InR k := fun k hk => repT_heads hv hk
  have hlen0 := hds_length t
  refine Does.intro Try.func48 rfl Try.ntmps48 rfl fun w0 => ?_
  refine code_seq ?_
  refine code_region ?_
  refine o_box rfl rfl rfl (fun b1 => ?_)
  refine op_v (v_assign rfl) rfl ?_
  refine ops_nil ?_
  refine post_next ?_
  refine code_seq ?_
  refine code_region ?_
  refine op_v (v_assign rfl) rfl ?_
  refine ops_nil ?_
  refine post_next ?_
  refine code_seq ?_
  refine code_seq ?_
  refine code_region ?_
  refine op_v (v_load ty24 rfl (by repeat (first | exact Has.here | apply Has.there)) rfl) rfl ?_
  refine op_call pl70 rfl rfl ((heads_does hv hbig)) Parts.none ?_
  rintro v8 I8 _ hI8 ⟨b8, rfl, rfl⟩
  refine OpsJ.openMap (δ' := fun es ck => [.obj b8 (.map es ck), .box b1 24 [.int .i64 t.head, .slice a0 t.args.length c0]]) (fun _ _ => Swap.here) ?_
  intro es ck hmi
  refine o_range Try.underlying85 rfl Has.here hmi rfl (fun r9 hL0 => ?_)
  refine ops_nil ?_
  refine post_next ?_
  refine code_block ?_
  refine CodeJ.view ((View.nilRow 3 1)) ?_
  refine code_loop (fun m σ' I' δ' => ∃ (cs : List Int) (ar : Option Addr) (cr : Nat) (left : Mp) (seen : Array Nat), m = left.length ∧ σ' = [(9, .pointer (some ⟨r9, 0, none⟩)), (3, .slice ar cs.length cr)] ∧ I.le I' ∧ δ' = [iRow ar cr cs, .obj r9 (.mapIter (some b8) ck seen ck), .obj b8 (.map es ck), .box b1 24 [.int .i64 t.head, .slice a0 t.args.length c0]] ∧ LeftM es ck ck seen ck (cntM (hds t)) left ∧ CInv (hds t) left cs ∧ (left.map (·.1)).Nodup ∧ ∀ p ∈ left, p ∈ cntM (hds t)) (cntM (hds t)).length [(9, .pointer (some ⟨r9, 0, none⟩)), (3, .slice none 0 0)] ⟨[], none, 0, _, _, rfl, rfl, hI8, rfl, hL0, CInv.start _, cntM_nodup _, fun _ h => h⟩ ⟨rfl, rfl, trivial⟩ ?_
  rintro m _ I0 _ ⟨cs, ar, cr, left, seen, rfl, rfl, hI0, rfl, hL, hC, hnd, hin⟩
  refine code_seq ?_
  refine code_region ?_
  by_cases hls : left = []
  · refine o_mnext0 hls hL rfl (Has.there (Has.there Has.here)) (fun _ => Swap.there Swap.here) rfl ?_
    refine op_v (v_extract rfl rfl) rfl ?_
    refine ops_nil ?_
    refine post_next ?_
    refine code_seq ?_
    refine code_cond_f rfl ?_
    refine code_exit ?_
    refine post_exit_then ?_
    refine post_exit_then ?_
    refine post_exit ?_
    refine post_next ?_
    refine code_seq ?_
    refine code_region ?_
    refine OpsJ.freezeRow Del.here ?_
    rintro I34 ar2 cr2 hI34 hvr hcr hlr hcells
    cases hvr
    subst hls
    have hcl := hC.1
    refine op_v (v_move rfl) rfl ?_
    refine op_v (v_assign rfl) rfl ?_
    refine ops_nil ?_
    refine post_next ?_
    refine code_ret ?_
    refine post_ret (rs := [.tmp 2]) rfl (List.Perm.refl _) (.cons (.tmp rfl) .nil) (List.nil_sublist _) ?_
    exact ⟨⟨cs, RInts.of rfl hcr (by omega) hcells (hC.in (by omega)), hC⟩, rfl⟩
  · refine o_mnext1 hls hL rfl (Has.there (Has.there Has.here)) (fun _ => Swap.there Swap.here) rfl (fun l k u q seen' hl hL' hcur => ?_)
    subst hl
    have hku := cntM_mem (hin (k, u) (by simp))
    obtain ⟨hu, hc1⟩ := hku
    simp only at hu hc1
    subst hu
    have hkr := hhr k (List.count_pos_iff.1 hc1)
    unfold InR at hkr
    have hkc := List.count_le_length (a := k) (l := hds t)
    have hin' : ∀ p ∈ l ++ q, p ∈ cntM (hds t) := fun p hp => hin p (by rcases List.mem_append.1 hp with h | h; exact List.mem_append_left _ h; exact List.mem_append_right _ (List.mem_cons_of_mem _ h))
    have hmeas : (l ++ q).length < (l ++ (k, Value.int .i64 ((hds t).count k)) :: q).length := by simp
    refine op_v (v_extract rfl rfl) rfl ?_
    refine ops_nil ?_
    refine post_next ?_
    refine code_seq ?_
    refine code_cond_t rfl ?_
    refine code_skip ?_
    refine post_next ?_
    refine code_block ?_
    refine code_seq ?_
    refine code_region ?_
    refine op_v (v_entry hL' rfl hcur (Has.there (Has.there Has.here)) (Has.there Has.here)) rfl ?_
    refine op_v (v_extract rfl rfl) rfl ?_
    refine op_v (v_extract rfl rfl) rfl ?_
    refine op_v (v_assign rfl) rfl ?_
    refine op_v (v_assign rfl) rfl ?_
    refine ops_nil ?_
    refine post_next ?_
    refine code_seq ?_
    refine code_region ?_
    refine op_v (v_move rfl) rfl ?_
    first | refine op_v (v_subb rfl rfl rfl (by omega)) rfl ?_ | refine op_v (v_sub rfl rfl) rfl ?_
    refine op_v (v_assign rfl) rfl ?_
    refine ops_nil ?_
    refine post_next ?_
    refine code_seq ?_
    refine code_seq ?_
    refine code_region ?_
    refine op_v (v_move rfl) rfl ?_
    by_cases h18 : -1 - k < 0
    · first | refine op_v (v_cmpt rfl rfl rfl (by first | omega | (simp; done) | (simp; omega))) rfl ?_ | refine op_v (v_cmpf rfl rfl rfl (by first | omega | (simp; done) | (simp; omega))) rfl ?_ | refine op_v (v_cmp rfl rfl rfl) rfl ?_
      refine op_v (v_move rfl) rfl ?_
      first
        | (refine op_want rfl rfl ?_
           refine op_v (v_move rfl) rfl ?_)
        | (refine op_skip rfl rfl (by simp [undef]) rfl ?_)
      first
        | (refine op_want rfl rfl ?_
           first | refine op_v (v_cmpt rfl rfl rfl (by first | omega | (simp; done) | (simp; omega))) rfl ?_ | refine op_v (v_cmpf rfl rfl rfl (by first | omega | (simp; done) | (simp; omega))) rfl ?_ | refine op_v (v_cmp rfl rfl rfl) rfl ?_)
        | (refine op_skip rfl rfl (by simp [undef]) rfl ?_)
      first | refine op_v (v_pickt rfl rfl) rfl ?_ | refine op_v (v_pickf rfl rfl) rfl ?_ | refine op_v (v_pickb rfl rfl rfl) rfl ?_
      refine ops_nil ?_
      refine post_next ?_
      refine code_cond_t rfl ?_
      refine code_exit ?_
      refine post_exit_then ?_
      refine post_exit ?_
      refine post_again _ [(9, .pointer (some ⟨r9, 0, none⟩)), (3, .slice ar cs.length cr)] hmeas ⟨cs, ar, cr, l ++ q, seen', rfl, rfl, hI0, rfl, hL', hC.skip hnd (.inl h18), mid_nodup hnd, hin'⟩ ⟨rfl, rfl, trivial⟩
    · first | refine op_v (v_cmpt rfl rfl rfl (by first | omega | (simp; done) | (simp; omega))) rfl ?_ | refine op_v (v_cmpf rfl rfl rfl (by first | omega | (simp; done) | (simp; omega))) rfl ?_ | refine op_v (v_cmp rfl rfl rfl) rfl ?_
      refine op_v (v_move rfl) rfl ?_
      first
        | (refine op_want rfl rfl ?_
           refine op_v (v_move rfl) rfl ?_)
        | (refine op_skip rfl rfl (by simp [undef]) rfl ?_)
      by_cases h21 : 255 < -1 - k
      · first
          | (refine op_want rfl rfl ?_
             first | refine op_v (v_cmpt rfl rfl rfl (by first | omega | (simp; done) | (simp; omega))) rfl ?_ | refine op_v (v_cmpf rfl rfl rfl (by first | omega | (simp; done) | (simp; omega))) rfl ?_ | refine op_v (v_cmp rfl rfl rfl) rfl ?_)
          | (refine op_skip rfl rfl (by simp [undef]) rfl ?_)
        first | refine op_v (v_pickt rfl rfl) rfl ?_ | refine op_v (v_pickf rfl rfl) rfl ?_ | refine op_v (v_pickb rfl rfl rfl) rfl ?_
        refine ops_nil ?_
        refine post_next ?_
        refine code_cond_t rfl ?_
        refine code_exit ?_
        refine post_exit_then ?_
        refine post_exit ?_
        refine post_again _ [(9, .pointer (some ⟨r9, 0, none⟩)), (3, .slice ar cs.length cr)] hmeas ⟨cs, ar, cr, l ++ q, seen', rfl, rfl, hI0, rfl, hL', hC.skip hnd (.inr h21), mid_nodup hnd, hin'⟩ ⟨rfl, rfl, trivial⟩
      · obtain ⟨vv, hvv⟩ : ∃ vv : Nat, -1 - k = vv := ⟨(-1 - k).toNat, by omega⟩
        have hcl := hC.1
        rw [hvv]
        first
          | (refine op_want rfl rfl ?_
             first | refine op_v (v_cmpt rfl rfl rfl (by first | omega | (simp; done) | (simp; omega))) rfl ?_ | refine op_v (v_cmpf rfl rfl rfl (by first | omega | (simp; done) | (simp; omega))) rfl ?_ | refine op_v (v_cmp rfl rfl rfl) rfl ?_)
          | (refine op_skip rfl rfl (by simp [undef]) rfl ?_)
        first | refine op_v (v_pickt rfl rfl) rfl ?_ | refine op_v (v_pickf rfl rfl) rfl ?_ | refine op_v (v_pickb rfl rfl rfl) rfl ?_
        refine ops_nil ?_
        refine post_next ?_
        refine code_cond_f rfl ?_
        refine code_skip ?_
        refine post_next ?_
        refine code_seq ?_
        refine code_block ?_
        refine code_loop (fun m σ' I' δ' => ∃ (j : Nat) (ar' : Option Addr) (cr' : Nat), m = vv + 1 - (cs.length + j) ∧ (j = 0 ∨ cs.length + j ≤ vv + 1) ∧ σ' = [(9, .pointer (some ⟨r9, 0, none⟩)), (3, .slice ar' (cs ++ List.replicate j 0).length cr'), (5, .int .i64 ((hds t).count k)), (6, .int .i64 vv)] ∧ I.le I' ∧ δ' = [iRow ar' cr' (cs ++ List.replicate j 0), .obj r9 (.mapIter (some b8) ck seen' ck), .obj b8 (.map es ck), .box b1 24 [.int .i64 t.head, .slice a0 t.args.length c0]]) (vv + 1 - cs.length) [(9, .pointer (some ⟨r9, 0, none⟩)), (3, .slice ar cs.length cr), (5, .int .i64 ((hds t).count k)), (6, .int .i64 vv)] ⟨0, ar, cr, rfl, .inl rfl, by simp, hI0, by simp⟩ ⟨rfl, rfl, rfl, rfl, trivial⟩ ?_
        rintro m _ I1 _ ⟨j, ar', cr', rfl, hj, rfl, hI1, rfl⟩
        have hln : (cs ++ List.replicate j (0 : Int)).length = cs.length + j := by simp
        refine code_seq ?_
        refine code_seq ?_
        refine code_region ?_
        refine op_v (v_move rfl) rfl ?_
        refine op_v (v_len Try.underlying25 rfl) rfl ?_
        refine op_v (v_move rfl) rfl ?_
        first | refine op_v (v_cmpt rfl rfl rfl (by first | omega | (simp; done) | (simp; omega))) rfl ?_ | refine op_v (v_cmpf rfl rfl rfl (by first | omega | (simp; done) | (simp; omega))) rfl ?_ | refine op_v (v_cmp rfl rfl rfl) rfl ?_
        refine ops_nil ?_
        refine post_next ?_
        refine code_cond rfl (fun hc2 => ?_) (fun hc2 => ?_)
        · have hle : cs.length + j ≤ vv := by have h := hc2; simp at h; omega
          refine code_skip ?_
          refine post_next ?_
          refine code_block ?_
          refine code_region ?_
          refine op_v (v_move rfl) rfl ?_
          refine o_buildSlice (xs := [(Go.Operand.const (Go.Value.int Go.IntKind.i64 0))]) Try.underlying25 bs3 rfl rfl rfl rfl rfl (fun b28 => ?_)
          refine o_append Try.underlying25 bs3 rfl rfl rfl (fun v' => by repeat (first | exact Swap.here | apply Swap.there)) (Src.ofRow (by repeat (first | exact Has.here | apply Has.there)) rfl) (by first | rfl | omega | simp) (by simp [cat, cellsL, Value.oneCell']) (by omega) (by omega) (fun a29 c29 => ?_)
          have hl2 : (cs ++ List.replicate j (0 : Int)).length + 1 = (cs ++ List.replicate (j + 1) (0 : Int)).length := by simp; omega
          refine op_v (v_assign rfl) rfl ?_
          refine ops_nil ?_
          refine post_out ?_
          refine PostJ.view (View.drop Del.here) ?_
          refine post_again (vv + 1 - (cs.length + (j + 1))) [(9, .pointer (some ⟨r9, 0, none⟩)), (3, .slice a29 ((cs ++ List.replicate j (0 : Int)).length + 1) c29), (5, .int .i64 ((hds t).count k)), (6, .int .i64 vv)] (by omega) ⟨j + 1, a29, c29, rfl, .inr (by omega), by rw [hl2], (by repeat (first | exact Imm.le_refl _ | assumption | refine Imm.le_trans ?_ (by assumption))), ?_⟩ ⟨rfl, rfl, rfl, rfl, trivial⟩
          simp [iRow, cat, cellsL, List.replicate_succ']
          omega
        · have hle : ¬ cs.length + j ≤ vv := by have h := hc2; simp at h; omega
          refine code_exit ?_
          refine post_exit_then ?_
          refine post_exit_then ?_
          refine post_exit ?_
          refine post_next ?_
          refine code_region ?_
          refine OpsJ.rowSome Has.here (by omega) (fun hA hcr => ?_)
          have hvl : vv < (cs ++ List.replicate j (0 : Int)).length := by omega
          have hkv : k = -1 - (vv : Int) := by omega
          refine op_v (v_move rfl) rfl ?_
          refine op_v (v_move rfl) rfl ?_
          refine op_v (v_move rfl) rfl ?_
          refine op_v (v_index Try.underlying25 sz3 rfl rfl hvl hA) rfl ?_
          refine o_storeRow (xs' := (((cs ++ List.replicate j (0 : Int)).set vv ((hds t).count k : Nat)).map (Value.int .i64))) ty3 rfl rfl hA rfl rfl rfl (by simp [cellsL]) Swap.here (by rw [List.map_set, Nat.mul_one]; exact stL_one (x := .int .i64 (cs ++ List.replicate j (0 : Int))[vv]) (by rw [List.getElem?_map, List.getElem?_eq_getElem hvl]; rfl)) ?_
          refine ops_nil ?_
          refine post_out ?_
          refine post_again _ [(9, .pointer (some ⟨r9, 0, none⟩)), (3, .slice ar' (cs ++ List.replicate j (0 : Int)).length cr')] hmeas ⟨(cs ++ List.replicate j (0 : Int)).set vv ((hds t).count k : Nat), ar', cr', l ++ q, seen', rfl, by rw [List.length_set], hI1, by simp only [iRow, List.length_set], hL', hC.step hnd hkv (by omega) hc1 (by omega) (by omega), mid_nodup hnd, hin'⟩ ⟨rfl, rfl, trivial⟩
end Go.Proofs.Ytdcklngleglbbaa
