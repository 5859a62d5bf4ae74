/- Walks: how heavy a term is, how often its variables stand in it. -/
import Derived.Test.YtdcklngleglbbaaGd
set_option linter.unusedVariables false
set_option linter.unusedSimpArgs false
namespace Go.Proofs.Ytdcklngleglbbaa
open Go Lg

def wtG (gs : List Sy) (h : Int) : Int := (gs[h.toNat]?.map Sy.wt).getD 0
def wB (gs : List Sy) (h : Int) : Int := if h < 0 then 1 else wtG gs h
def wgtG (gs : List Sy) (t : T) : Int := ((hds t).map (wB gs)).sum
theorem wtG_at {gs : List Sy} {h : Int} (h0 : 0 ≤ h) (hl : h < gs.length) : wtG gs h = (gs[h.toNat]'(by omega)).wt := by
  have : h.toNat < gs.length := by omega
  simp [wtG, this]
structure OkG (gs : List Sy) (t : T) : Prop where
  right : rightG gs = true
  chk : chkT t = 0
  unk : unkG gs t = false
  mix : mixG gs t = false
theorem termG_ok {gs : List Sy} {t : T} : termG gs t = 0 ↔ OkG gs t := by
  unfold termG
  constructor
  · intro h
    split at h
    · rename_i h1; exact absurd h h1
    · rename_i h1
      split at h
      · rename_i h2; exact absurd h h2
      · rename_i h2
        split at h
        · cases h
        · rename_i h3
          split at h
          · cases h
          · rename_i h4
            refine ⟨?_, by simpa using h2, by simpa using h3, by simpa using h4⟩
            unfold chkG at h1
            by_cases hr : rightG gs = true
            · exact hr
            · rw [if_neg hr] at h1; simp at h1
  · rintro ⟨h1, h2, h3, h4⟩
    have : chkG gs = 0 := by simp [chkG, h1]
    simp [this, h2, h3, h4]
theorem chkT_size {t : T} (h : chkT t = 0) : t.size ≤ 400 := by
  unfold chkT at h
  split at h
  · cases h
  · omega
theorem OkG.head {gs : List Sy} {t : T} (h : OkG gs t) : ∀ k ∈ hds t, k < 0 ∨ (0 ≤ k ∧ k < gs.length) := by
  intro k hk
  obtain ⟨x, hx, rfl⟩ := List.mem_map.1 hk
  have h1 := h.unk
  unfold unkG at h1
  rw [List.any_eq_false] at h1
  have h2 := h1 x hx
  simp only [unkB, Bool.and_eq_true, decide_eq_true_eq, Bool.or_eq_true, not_and, not_or] at h2
  by_cases h3 : x.2.head < 0
  · exact .inl h3
  · have := (h2 (by omega)).1; exact .inr ⟨by omega, by omega⟩
theorem right_wt {gs : List Sy} (h : rightG gs = true) (i : Nat) (hi : i < gs.length) : 1 ≤ gs[i].wt ∧ gs[i].wt ≤ 1000 := by
  have := rightG_at h i hi
  simp only [badS, Bool.or_eq_false_iff, decide_eq_false_iff_not] at this
  omega
theorem wB_range {gs : List Sy} (h : rightG gs = true) {k : Int} (hk : k < 0 ∨ (0 ≤ k ∧ k < gs.length)) : 1 ≤ wB gs k ∧ wB gs k ≤ 1000 := by
  unfold wB
  rcases hk with hk | ⟨h0, h1⟩
  · rw [if_pos hk]; omega
  · rw [if_neg (by omega), wtG_at h0 h1]; exact right_wt h _ _
theorem sum_range (w : Int → Int) : ∀ l : List Int, (∀ k ∈ l, 1 ≤ w k ∧ w k ≤ 1000) → (l.length : Int) ≤ (l.map w).sum ∧ (l.map w).sum ≤ 1000 * l.length
  | [], _ => by simp
  | x :: r, h => by
    have h1 := h x (List.mem_cons_self ..)
    have h2 := sum_range w r (fun k hk => h k (List.mem_cons_of_mem _ hk))
    simp only [List.map_cons, List.sum_cons, List.length_cons]
    omega
theorem wgtG_range {gs : List Sy} {t : T} (h : OkG gs t) : (t.size : Int) ≤ wgtG gs t ∧ wgtG gs t ≤ 400000 := by
  have h1 := sum_range (wB gs) (hds t) (fun k hk => wB_range h.right (h.head k hk))
  have h2 := chkT_size h.chk
  rw [hds_length] at h1
  unfold wgtG
  omega
theorem sumM_nonneg (w : Int → Int) : ∀ m : Mp, (∀ p ∈ m, 0 ≤ w p.1 * ivl p.2) → 0 ≤ sumM w m
  | [], _ => by simp [sumM]
  | p :: r, h => by
    have h1 := h p (List.mem_cons_self ..)
    have h2 := sumM_nonneg w r (fun q hq => h q (List.mem_cons_of_mem _ hq))
    unfold sumM at *
    simp only [List.map_cons, List.sum_cons]; omega
theorem cnt_nonneg {gs : List Sy} {t : T} (h : OkG gs t) {p : Int × Value} (hp : p ∈ cntM (hds t)) : p.2 = .int .i64 ((hds t).count p.1) ∧ 0 < (hds t).count p.1 ∧ 0 ≤ wB gs p.1 * ivl p.2 ∧ (p.1 < 0 ∨ (0 ≤ p.1 ∧ p.1 < gs.length)) := by
  obtain ⟨h1, h2⟩ := cntM_mem hp
  have h3 := h.head p.1 (List.count_pos_iff.1 h2)
  have h4 := wB_range h.right h3
  refine ⟨h1, h2, ?_, h3⟩
  rw [h1]
  exact Int.mul_nonneg (by omega) (by simp [ivl])

theorem GWeight_does {I : Imm} {vg v : Value} {gs : List Sy} {t : T} (hg : RepG I vg gs) (hv : RepT I v t) (hbig : t.size ≤ 1000000000) :
    Does Try.prog 44 [vg, v] I [] (fun v _ δ' => v = .tuple #[.int .i64 (if termG gs t = 0 then wgtG gs t else 0), .int .i64 (termG gs t)] ∧ δ' = []) := by
  obtain ⟨ad, c, rfl⟩ := hg.shape
  obtain ⟨_, hc, hb, hat, hok⟩ := hg.open
  obtain ⟨a0, c0, rfl, hr0⟩ := hv.shape
  refine Does.intro Try.func44 rfl Try.ntmps44 rfl fun w0 => ?_
  refine code_seq ?_
  refine code_region ?_
  refine o_box rfl rfl rfl (fun b3 => ?_)
  refine op_v (v_assign rfl) rfl ?_
  refine op_v (v_assign rfl) rfl ?_
  refine ops_nil ?_
  refine post_next ?_
  refine code_seq ?_
  refine code_seq ?_
  refine code_region ?_
  refine op_v (v_move rfl) rfl ?_
  refine op_v (v_load ty24 rfl (by repeat (first | exact Has.here | apply Has.there)) rfl) rfl ?_
  refine op_call pl63 rfl rfl ((GTerm_does hg hv hbig)) Parts.none ?_
  rintro v12 I12 _ hI12 ⟨rfl, rfl⟩
  refine op_v (v_assign rfl) rfl ?_
  refine ops_nil ?_
  refine post_next ?_
  refine code_seq ?_
  refine code_region ?_
  refine op_v (v_move rfl) rfl ?_
  by_cases h14 : termG gs t ≠ 0
  · first | refine op_v (v_cmpt rfl rfl rfl (by first | omega | (simp; done) | (simp; omega))) rfl ?_ | refine op_v (v_cmpf rfl rfl rfl (by first | omega | (simp; done) | (simp; omega))) rfl ?_ | refine op_v (v_cmp rfl rfl rfl) rfl ?_
    refine ops_nil ?_
    refine post_next ?_
    refine code_cond_t rfl ?_
    refine code_seq ?_
    refine code_region ?_
    refine op_v (v_move rfl) rfl ?_
    refine op_v (v_assign rfl) rfl ?_
    refine op_v (v_assign rfl) rfl ?_
    refine ops_nil ?_
    refine post_next ?_
    refine code_ret ?_
    refine post_ret_then ?_
    refine post_ret (rs := [.tmp 4, .tmp 5]) rfl (List.Perm.refl _) (.cons (.tmp rfl) (.cons (.tmp rfl) .nil)) (List.nil_sublist _) ?_
    exact ⟨by simp [outV, h14], rfl⟩
  · have h14' : termG gs t = 0 := by simpa using h14
    have hG := termG_ok.1 h14'
    have hS := wgtG_range hG
    first | refine op_v (v_cmpt rfl rfl rfl (by first | omega | (simp; done) | (simp; omega))) rfl ?_ | refine op_v (v_cmpf rfl rfl rfl (by first | omega | (simp; done) | (simp; omega))) rfl ?_ | refine op_v (v_cmp rfl rfl rfl) rfl ?_
    refine ops_nil ?_
    refine post_next ?_
    refine code_cond_f rfl ?_
    refine code_skip ?_
    refine post_next ?_
    refine code_seq ?_
    refine code_region ?_
    refine op_v (v_assign rfl) rfl ?_
    refine ops_nil ?_
    refine post_next ?_
    refine code_seq ?_
    refine code_seq ?_
    refine code_region ?_
    refine op_v (v_load ty24 rfl (by repeat (first | exact Has.here | apply Has.there)) rfl) rfl ?_
    refine op_call pl70 rfl rfl ((heads_does (hv.mono (by repeat (first | exact Imm.le_refl _ | assumption | refine Imm.le_trans ?_ (by assumption)))) hbig)) Parts.none ?_
    rintro v17 I17 _ hI17 ⟨b17, rfl, rfl⟩
    refine OpsJ.openMap (δ' := fun es ck => [.obj b17 (.map es ck), .box b3 24 [.int .i64 t.head, .slice a0 t.args.length c0]]) (fun _ _ => Swap.here) ?_
    intro es ck hmi
    refine o_range Try.underlying85 rfl Has.here hmi rfl (fun r18 hL0 => ?_)
    refine ops_nil ?_
    refine post_next ?_
    refine code_block ?_
    refine code_loop (fun m σ' I' δ' => ∃ (n : Int) (left : Mp) (seen : Array Nat), m = left.length ∧ σ' = [(0, .slice ad gs.length c), (18, .pointer (some ⟨r18, 0, none⟩)), (7, .int .i64 n)] ∧ I' = I17 ∧ δ' = [.obj r18 (.mapIter (some b17) ck seen ck), .obj b17 (.map es ck), .box b3 24 [.int .i64 t.head, .slice a0 t.args.length c0]] ∧ LeftM es ck ck seen ck (cntM (hds t)) left ∧ n + sumM (wB gs) left = wgtG gs t ∧ 0 ≤ n ∧ ∀ p ∈ left, p ∈ cntM (hds t)) (cntM (hds t)).length [(0, .slice ad gs.length c), (18, .pointer (some ⟨r18, 0, none⟩)), (7, .int .i64 0)] ⟨0, _, _, rfl, rfl, rfl, rfl, hL0, by rw [sumM_cnt]; simp [wgtG], Int.le_refl _, fun _ h => h⟩ ⟨rfl, rfl, rfl, trivial⟩ ?_
    rintro m _ _ _ ⟨n, left, seen, rfl, rfl, rfl, rfl, hL, hsum, hn0, hin⟩
    refine code_seq ?_
    refine code_region ?_
    by_cases hls : left = []
    · refine o_mnext0 hls hL rfl (Has.there Has.here) (fun _ => Swap.here) rfl ?_
      refine op_v (v_extract rfl rfl) rfl ?_
      refine ops_nil ?_
      refine post_next ?_
      refine code_seq ?_
      refine code_cond_f rfl ?_
      refine code_exit ?_
      refine post_exit_then ?_
      refine post_exit_then ?_
      refine post_exit ?_
      refine post_next ?_
      refine code_seq ?_
      refine code_region ?_
      refine op_v (v_move rfl) rfl ?_
      refine op_v (v_assign rfl) rfl ?_
      refine op_v (v_assign rfl) rfl ?_
      refine ops_nil ?_
      refine post_next ?_
      refine code_ret ?_
      refine post_ret (rs := [.tmp 4, .tmp 5]) rfl (List.Perm.refl _) (.cons (.tmp rfl) (.cons (.tmp rfl) .nil)) (List.nil_sublist _) ?_
      exact ⟨by rw [if_pos h14', h14']; simp [outV]; simp only [hls, sumM] at hsum; simpa using hsum, rfl⟩
    · refine o_mnext1 hls hL rfl (Has.there Has.here) (fun _ => Swap.here) rfl (fun l k u q seen' hl hL' hcur => ?_)
      subst hl
      obtain ⟨hu, hc1, hc2, hc3⟩ := cnt_nonneg hG (hin (k, u) (by simp))
      simp only at hu hc1 hc2 hc3
      subst hu
      rw [sumM_mid] at hsum
      have hrest := sumM_nonneg (wB gs) (l ++ q) (fun p hp => (cnt_nonneg hG (hin p (by rcases List.mem_append.1 hp with h | h; exact List.mem_append_left _ h; exact List.mem_append_right _ (List.mem_cons_of_mem _ h)))).2.2.1)
      have hin' : ∀ p ∈ l ++ q, p ∈ cntM (hds t) := fun p hp => hin p (by rcases List.mem_append.1 hp with h | h; exact List.mem_append_left _ h; exact List.mem_append_right _ (List.mem_cons_of_mem _ h))
      have hmeas : (l ++ q).length < (l ++ (k, Value.int .i64 ((hds t).count k)) :: q).length := by simp
      refine op_v (v_extract rfl rfl) rfl ?_
      refine ops_nil ?_
      refine post_next ?_
      refine code_seq ?_
      refine code_cond_t rfl ?_
      refine code_skip ?_
      refine post_next ?_
      refine code_block ?_
      refine code_seq ?_
      refine code_region ?_
      refine op_v (v_entry hL' rfl hcur (Has.there Has.here) Has.here) rfl ?_
      refine op_v (v_extract rfl rfl) rfl ?_
      refine op_v (v_extract rfl rfl) rfl ?_
      refine op_v (v_assign rfl) rfl ?_
      refine op_v (v_assign rfl) rfl ?_
      refine ops_nil ?_
      refine post_next ?_
      refine code_seq ?_
      refine code_region ?_
      refine op_v (v_move rfl) rfl ?_
      by_cases hk : k < 0
      · have hw : wB gs k = 1 := by simp [wB, hk]
        rw [hw, Int.one_mul] at hsum
        simp only [ivl] at hsum
        first | refine op_v (v_cmpt rfl rfl rfl (by first | omega | (simp; done) | (simp; omega))) rfl ?_ | refine op_v (v_cmpf rfl rfl rfl (by first | omega | (simp; done) | (simp; omega))) rfl ?_ | refine op_v (v_cmp rfl rfl rfl) rfl ?_
        refine ops_nil ?_
        refine post_next ?_
        refine code_cond_t rfl ?_
        refine code_region ?_
        refine op_v (v_move rfl) rfl ?_
        refine op_v (v_move rfl) rfl ?_
        first | refine op_v (v_addb rfl rfl rfl (by omega)) rfl ?_ | refine op_v (v_add rfl rfl) rfl ?_
        refine op_v (v_assign rfl) rfl ?_
        refine ops_nil ?_
        refine post_out ?_
        refine post_again _ [(0, .slice ad gs.length c), (18, .pointer (some ⟨r18, 0, none⟩)), (7, .int .i64 (n + (((hds t).count k : Nat) : Int)))] hmeas ⟨_, l ++ q, seen', rfl, rfl, rfl, rfl, hL', by omega, by omega, hin'⟩ ⟨rfl, rfl, rfl, trivial⟩
      · have hlt : k.toNat < gs.length := by omega
        have hs1 := (hat _ hlt).isSome
        have hw : wB gs k = (gs[k.toNat]'hlt).wt := by rw [wB, if_neg hk, wtG_at (by omega) (by omega)]
        rw [hw] at hsum hc2
        simp only [ivl] at hsum hc2
        have hmq : ∃ q2 : Int, q2 = (((hds t).count k : Nat) : Int) * (gs[k.toNat]'hlt).wt := ⟨_, rfl⟩
        obtain ⟨q2, hq2⟩ := hmq
        rw [Int.mul_comm, ← hq2] at hsum hc2
        first | refine op_v (v_cmpt rfl rfl rfl (by first | omega | (simp; done) | (simp; omega))) rfl ?_ | refine op_v (v_cmpf rfl rfl rfl (by first | omega | (simp; done) | (simp; omega))) rfl ?_ | refine op_v (v_cmp rfl rfl rfl) rfl ?_
        refine ops_nil ?_
        refine post_next ?_
        refine code_cond_f rfl ?_
        refine code_region ?_
        refine op_v (v_move rfl) rfl ?_
        refine op_v (v_move rfl) rfl ?_
        refine op_v (v_move rfl) rfl ?_
        refine op_v (v_move rfl) rfl ?_
        first | refine op_v (v_index Try.underlying43 sz49 rfl rfl (by omega) (by assumption)) rfl ?_ | refine op_v (v_indexI Try.underlying43 sz49 rfl rfl (by first | omega | (simp; done) | (simp; omega)) (by first | omega | (simp; done) | (simp; omega)) (by assumption)) rfl ?_
        first | refine op_v (v_fieldB 2 Try.underlying49 rfl rfl fz3 rfl) rfl ?_ | refine op_v (v_fieldI 2 Try.underlying49 rfl rfl fz3 rfl (by assumption)) rfl ?_ | refine op_v (v_field Try.underlying49 rfl fz3 rfl rfl) rfl ?_
        first | refine op_v (v_loadI0 ty3 ((hat _ hlt).mono (by repeat (first | exact Imm.le_refl _ | assumption | refine Imm.le_trans ?_ (by assumption)))) rfl rfl rfl) rfl ?_ | refine op_v (v_loadI ty3 ((hat _ hlt).mono (by repeat (first | exact Imm.le_refl _ | assumption | refine Imm.le_trans ?_ (by assumption)))) rfl rfl rfl) rfl ?_
        refine op_v (v_mulb (c := q2) rfl rfl hq2.symm ⟨by omega, by omega⟩) rfl ?_
        first | refine op_v (v_addb rfl rfl rfl (by omega)) rfl ?_ | refine op_v (v_add rfl rfl) rfl ?_
        refine op_v (v_assign rfl) rfl ?_
        refine ops_nil ?_
        refine post_out ?_
        refine post_again _ [(0, .slice ad gs.length c), (18, .pointer (some ⟨r18, 0, none⟩)), (7, .int .i64 (n + q2))] hmeas ⟨_, l ++ q, seen', rfl, rfl, rfl, rfl, hL', by omega, by omega, hin'⟩ ⟨rfl, rfl, rfl, trivial⟩
end Go.Proofs.Ytdcklngleglbbaa
