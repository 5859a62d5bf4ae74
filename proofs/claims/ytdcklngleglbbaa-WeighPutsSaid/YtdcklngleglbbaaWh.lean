/- Walks: all places of a term. -/
import Derived.Test.YtdcklngleglbbaaWg
set_option linter.unusedVariables false
set_option linter.unusedSimpArgs false
namespace Go.Proofs.Ytdcklngleglbbaa
open Go Lg

mutual
def allT : T → List (List Int)
  | .mk _ ts => [] :: allL 0 ts
def allL : Nat → List T → List (List Int)
  | _, [] => []
  | i, t :: r => (allT t).map ((i : Int) :: ·) ++ allL (i + 1) r
end
mutual
theorem allT_length : ∀ t : T, (allT t).length = t.size
  | .mk h ts => by simp [allT, T.size, allL_length 0 ts]; omega
theorem allL_length : ∀ (i : Nat) (ts : List T), (allL i ts).length = sizeL ts
  | _, [] => rfl
  | i, t :: r => by simp [allL, sizeL, allT_length t, allL_length (i + 1) r]
end
mutual
theorem allT_deep : ∀ (t : T) (p : List Int), p ∈ allT t → p.length + 1 ≤ t.size
  | .mk h ts, p, hp => by
    simp only [allT, List.mem_cons] at hp
    rcases hp with rfl | hp
    · simp [T.size]
    · have := allL_deep 0 ts p hp; simp [T.size]; omega
theorem allL_deep : ∀ (i : Nat) (ts : List T) (p : List Int), p ∈ allL i ts → p.length ≤ sizeL ts
  | _, [], p, hp => by simp [allL] at hp
  | i, t :: r, p, hp => by
    simp only [allL, List.mem_append, List.mem_map] at hp
    rcases hp with ⟨q, hq, rfl⟩ | hp
    · have := allT_deep t q hq; simp [sizeL]; omega
    · have := allL_deep (i + 1) r p hp; simp [sizeL]; omega
end
theorem allL_drop (ts : List T) (k : Nat) (h : k < ts.length) : allL k (ts.drop k) = (allT ts[k]).map ((k : Int) :: ·) ++ allL (k + 1) (ts.drop (k + 1)) := by
  rw [List.drop_eq_getElem_cons h]; simp [allL]

theorem Same2_does (I : Imm) {va vb : Value} {ps qs : List (List Int)} (ha : RPs I va ps) (hb : RPs I vb qs) :
    Does Try.prog 23 [va, vb] I [] (fun v I' δ' => v = .bool (decide (ps = qs)) ∧ δ' = []) := by
  obtain ⟨ad, c, xs, ps, hc, hn, hca, hra⟩ := ha
  obtain ⟨bd, e, ys, qs, he, hm, hcb, hrb⟩ := hb
  refine Does.intro Try.func23 rfl Try.ntmps23 rfl fun w0 => ?_
  refine code_seq ?_
  refine code_region ?_
  refine op_v (v_assign rfl) rfl ?_
  refine ops_nil ?_
  refine post_next ?_
  refine code_seq ?_
  refine code_seq ?_
  refine code_region ?_
  refine op_v (v_move rfl) rfl ?_
  refine op_v (v_len Try.underlying36 rfl) rfl ?_
  refine op_v (v_move rfl) rfl ?_
  refine op_v (v_len Try.underlying36 rfl) rfl ?_
  first | refine op_v (v_cmpt rfl rfl rfl (by first | omega | (simp; done) | (simp; omega))) rfl ?_ | refine op_v (v_cmpf rfl rfl rfl (by first | omega | (simp; done) | (simp; omega))) rfl ?_ | refine op_v (v_cmp rfl rfl rfl) rfl ?_
  refine ops_nil ?_
  refine post_next ?_
  refine code_cond rfl (fun hc0 => ?_) (fun hc0 => ?_)
  · have hl : ps.length ≠ qs.length := by simp at hc0; omega
    refine code_seq ?_
    refine code_region ?_
    refine op_v (v_assign rfl) rfl ?_
    refine ops_nil ?_
    refine post_next ?_
    refine code_ret ?_
    refine post_ret_then ?_
    refine post_ret (rs := [.tmp 4]) rfl (List.Perm.refl _) (.cons (.tmp rfl) .nil) (List.nil_sublist _) ?_
    exact ⟨bool_f fun e => hl (by rw [e]), rfl⟩
  · have hl : ps.length = qs.length := by simp at hc0; omega
    refine code_skip ?_
    refine post_next ?_
    refine code_seq ?_
    refine code_seq ?_
    refine code_region ?_
    refine op_v (v_assign rfl) rfl ?_
    refine ops_nil ?_
    refine post_next ?_
    refine code_block ?_
    refine code_loop (fun m σ' I' δ' => ∃ k : Nat, m = ps.length - k ∧ σ' = [(0, .slice ad ps.length c), (1, .slice bd qs.length e), (5, .int .i64 k)] ∧ I.le I' ∧ δ' = [] ∧ k ≤ ps.length ∧ ∀ j (h : j < k) (h1 : j < ps.length) (h2 : j < qs.length), ps[j] = qs[j]) (ps.length - 0) [(0, .slice ad ps.length c), (1, .slice bd qs.length e), (5, .int .i64 (0 : Nat))] ⟨0, rfl, rfl, Imm.le_refl _, rfl, ⟨Nat.zero_le _, fun j h => by omega⟩⟩ ⟨rfl, rfl, rfl, trivial⟩ ?_
    rintro m _ I0 _ ⟨k, rfl, rfl, hI0, rfl, hp⟩
    obtain ⟨hk, hp⟩ := hp
    refine code_seq ?_
    refine code_seq ?_
    refine code_region ?_
    refine op_v (v_move rfl) rfl ?_
    refine op_v (v_move rfl) rfl ?_
    refine op_v (v_len Try.underlying36 rfl) rfl ?_
    first | refine op_v (v_cmpt rfl rfl rfl (by first | omega | (simp; done) | (simp; omega))) rfl ?_ | refine op_v (v_cmpf rfl rfl rfl (by first | omega | (simp; done) | (simp; omega))) rfl ?_ | refine op_v (v_cmp rfl rfl rfl) rfl ?_
    refine ops_nil ?_
    refine post_next ?_
    refine code_cond rfl (fun hc1 => ?_) (fun hc1 => ?_)
    · have hlt : k < ps.length := by simpa using hc1
      have hlt' : k < qs.length := by omega
      obtain ⟨pd, pc, hpa, hpr⟩ := RPs.get hca hra k hlt
      obtain ⟨qd, qc, hqa, hqr⟩ := RPs.get hcb hrb k hlt'
      have hs1 := hpa.isSome
      have hs2 := hqa.isSome
      refine code_skip ?_
      refine post_next ?_
      refine code_seq ?_
      refine code_block ?_
      refine code_seq ?_
      refine code_draw (.fl 0 (.fl 1 (.fl 2 (.fl 3 (.fl 4 (.fl 5 (.fl 6 (.fl 7 (.ef 8 (.fl 9 .done)))))))))) (fun _ => _) mixed (by kernel_rfl) (by kernel_rfl) (fun _ => (List.Sublist.refl _)) ?_
      refine e_float rfl rfl (fun hs_ => PF.mk rfl (v_move rfl) hs_) (by repeat (first | exact Imm.le_refl _ | assumption | refine Imm.le_trans ?_ (by assumption))) (by intro x hx; first | exact hx | exact List.mem_cons_of_mem _ hx | exact List.mem_append_right _ hx | (simp only [List.mem_cons, List.not_mem_nil, or_false] at hx; repeat' (first | (subst hx; simp [cellsL]; done) | rcases hx with hx | hx)) | simp_all) ?_
      refine e_float rfl rfl (fun hs_ => PF.mk rfl (v_move rfl) hs_) (by repeat (first | exact Imm.le_refl _ | assumption | refine Imm.le_trans ?_ (by assumption))) (by intro x hx; first | exact hx | exact List.mem_cons_of_mem _ hx | exact List.mem_append_right _ hx | (simp only [List.mem_cons, List.not_mem_nil, or_false] at hx; repeat' (first | (subst hx; simp [cellsL]; done) | rcases hx with hx | hx)) | simp_all) ?_
      first | refine e_float rfl rfl (fun hs_ => PF.mk rfl (v_index Try.underlying36 sz25 rfl rfl (by omega) (by assumption)) hs_) (by repeat (first | exact Imm.le_refl _ | assumption | refine Imm.le_trans ?_ (by assumption))) (by intro x hx; first | exact hx | exact List.mem_cons_of_mem _ hx | exact List.mem_append_right _ hx | (simp only [List.mem_cons, List.not_mem_nil, or_false] at hx; repeat' (first | (subst hx; simp [cellsL]; done) | rcases hx with hx | hx)) | simp_all) ?_ | refine e_float rfl rfl (fun hs_ => PF.mk rfl (v_indexI Try.underlying36 sz25 rfl rfl (by first | omega | (simp; done) | (simp; omega)) (by first | omega | (simp; done) | (simp; omega)) (by assumption)) hs_) (by repeat (first | exact Imm.le_refl _ | assumption | refine Imm.le_trans ?_ (by assumption))) (by intro x hx; first | exact hx | exact List.mem_cons_of_mem _ hx | exact List.mem_append_right _ hx | (simp only [List.mem_cons, List.not_mem_nil, or_false] at hx; repeat' (first | (subst hx; simp [cellsL]; done) | rcases hx with hx | hx)) | simp_all) ?_
      first | refine e_float rfl rfl (fun hs_ => PF.mk rfl (v_loadI0 ty25 (hpa.mono hI0) rfl rfl rfl) hs_) (by repeat (first | exact Imm.le_refl _ | assumption | refine Imm.le_trans ?_ (by assumption))) (by intro x hx; first | exact hx | exact List.mem_cons_of_mem _ hx | exact List.mem_append_right _ hx | (simp only [List.mem_cons, List.not_mem_nil, or_false] at hx; repeat' (first | (subst hx; simp [cellsL]; done) | rcases hx with hx | hx)) | simp_all) ?_ | refine e_float rfl rfl (fun hs_ => PF.mk rfl (v_loadI ty25 (hpa.mono hI0) rfl rfl rfl) hs_) (by repeat (first | exact Imm.le_refl _ | assumption | refine Imm.le_trans ?_ (by assumption))) (by intro x hx; first | exact hx | exact List.mem_cons_of_mem _ hx | exact List.mem_append_right _ hx | (simp only [List.mem_cons, List.not_mem_nil, or_false] at hx; repeat' (first | (subst hx; simp [cellsL]; done) | rcases hx with hx | hx)) | simp_all) ?_
      refine e_float rfl rfl (fun hs_ => PF.mk rfl (v_move rfl) hs_) (by repeat (first | exact Imm.le_refl _ | assumption | refine Imm.le_trans ?_ (by assumption))) (by intro x hx; first | exact hx | exact List.mem_cons_of_mem _ hx | exact List.mem_append_right _ hx | (simp only [List.mem_cons, List.not_mem_nil, or_false] at hx; repeat' (first | (subst hx; simp [cellsL]; done) | rcases hx with hx | hx)) | simp_all) ?_
      refine e_float rfl rfl (fun hs_ => PF.mk rfl (v_move rfl) hs_) (by repeat (first | exact Imm.le_refl _ | assumption | refine Imm.le_trans ?_ (by assumption))) (by intro x hx; first | exact hx | exact List.mem_cons_of_mem _ hx | exact List.mem_append_right _ hx | (simp only [List.mem_cons, List.not_mem_nil, or_false] at hx; repeat' (first | (subst hx; simp [cellsL]; done) | rcases hx with hx | hx)) | simp_all) ?_
      first | refine e_float rfl rfl (fun hs_ => PF.mk rfl (v_index Try.underlying36 sz25 rfl rfl (by omega) (by assumption)) hs_) (by repeat (first | exact Imm.le_refl _ | assumption | refine Imm.le_trans ?_ (by assumption))) (by intro x hx; first | exact hx | exact List.mem_cons_of_mem _ hx | exact List.mem_append_right _ hx | (simp only [List.mem_cons, List.not_mem_nil, or_false] at hx; repeat' (first | (subst hx; simp [cellsL]; done) | rcases hx with hx | hx)) | simp_all) ?_ | refine e_float rfl rfl (fun hs_ => PF.mk rfl (v_indexI Try.underlying36 sz25 rfl rfl (by first | omega | (simp; done) | (simp; omega)) (by first | omega | (simp; done) | (simp; omega)) (by assumption)) hs_) (by repeat (first | exact Imm.le_refl _ | assumption | refine Imm.le_trans ?_ (by assumption))) (by intro x hx; first | exact hx | exact List.mem_cons_of_mem _ hx | exact List.mem_append_right _ hx | (simp only [List.mem_cons, List.not_mem_nil, or_false] at hx; repeat' (first | (subst hx; simp [cellsL]; done) | rcases hx with hx | hx)) | simp_all) ?_
      first | refine e_float rfl rfl (fun hs_ => PF.mk rfl (v_loadI0 ty25 (hqa.mono hI0) rfl rfl rfl) hs_) (by repeat (first | exact Imm.le_refl _ | assumption | refine Imm.le_trans ?_ (by assumption))) (by intro x hx; first | exact hx | exact List.mem_cons_of_mem _ hx | exact List.mem_append_right _ hx | (simp only [List.mem_cons, List.not_mem_nil, or_false] at hx; repeat' (first | (subst hx; simp [cellsL]; done) | rcases hx with hx | hx)) | simp_all) ?_ | refine e_float rfl rfl (fun hs_ => PF.mk rfl (v_loadI ty25 (hqa.mono hI0) rfl rfl rfl) hs_) (by repeat (first | exact Imm.le_refl _ | assumption | refine Imm.le_trans ?_ (by assumption))) (by intro x hx; first | exact hx | exact List.mem_cons_of_mem _ hx | exact List.mem_append_right _ hx | (simp only [List.mem_cons, List.not_mem_nil, or_false] at hx; repeat' (first | (subst hx; simp [cellsL]; done) | rcases hx with hx | hx)) | simp_all) ?_
      refine e_eff rfl (by intro cs b hc; cases hc) (by intro c hc; cases hc) ?_
      refine op_call pl31 rfl rfl ((Ints_does _ (hpr.mono hI0) (hqr.mono hI0))) Parts.none ?_
      rintro v25 I25 _ hI25 ⟨rfl, rfl⟩
      refine ops_nil ?_
      refine e_next rfl (side_all (by repeat (first | exact Imm.le_refl _ | assumption | refine Imm.le_trans ?_ (by assumption))) (fun _ => (by intro x hx; first | exact hx | exact List.mem_cons_of_mem _ hx | exact List.mem_append_right _ hx | (simp only [List.mem_cons, List.not_mem_nil, or_false] at hx; repeat' (first | (subst hx; simp [cellsL]; done) | rcases hx with hx | hx)) | simp_all))) ?_
      refine e_float rfl rfl (fun hs_ => PF.mk rfl (v_not rfl) hs_) (by repeat (first | exact Imm.le_refl _ | assumption | refine Imm.le_trans ?_ (by assumption))) (by intro x hx; first | exact hx | exact List.mem_cons_of_mem _ hx | exact List.mem_append_right _ hx | (simp only [List.mem_cons, List.not_mem_nil, or_false] at hx; repeat' (first | (subst hx; simp [cellsL]; done) | rcases hx with hx | hx)) | simp_all) ?_
      refine e_done ?_
      refine post_next ?_
      refine code_cond rfl (fun hc2 => ?_) (fun hc2 => ?_)
      · have hne : ps[k] ≠ qs[k] := by simpa using hc2
        refine code_seq ?_
        refine code_region ?_
        refine op_v (v_assign rfl) rfl ?_
        refine ops_nil ?_
        refine post_next ?_
        refine code_ret ?_
        refine post_ret_block ?_
        refine post_ret_then ?_
        refine post_ret_then ?_
        refine post_ret_block ?_
        refine post_ret_then ?_
        refine post_ret (rs := [.tmp 4]) rfl (List.Perm.refl _) (.cons (.tmp rfl) .nil) (List.nil_sublist _) ?_
        exact ⟨bool_f fun e => hne (by subst e; rfl), rfl⟩
      · have heq : ps[k] = qs[k] := by simpa using hc2
        refine code_skip ?_
        refine post_out ?_
        refine post_next ?_
        refine code_region ?_
        refine op_v (v_move rfl) rfl ?_
        first | refine op_v (v_addb rfl rfl rfl (by omega)) rfl ?_ | refine op_v (v_add rfl rfl) rfl ?_
        refine op_v (v_assign rfl) rfl ?_
        refine ops_nil ?_
        refine post_again (ps.length - (k + 1)) [(0, .slice ad ps.length c), (1, .slice bd qs.length e), (5, .int .i64 (k + 1 : Nat))] (by omega) ⟨k + 1, rfl, rfl, Imm.le_trans hI0 hI25, rfl, ⟨hlt, fun j h h1 h2 => by by_cases hj : j = k; (subst hj; exact heq); exact hp j (by omega) h1 h2⟩⟩ ⟨rfl, rfl, rfl, trivial⟩
    · have hge : ¬ k < ps.length := by simpa using hc1
      refine code_exit ?_
      refine post_exit_then ?_
      refine post_exit_then ?_
      refine post_exit ?_
      refine post_next ?_
      refine code_seq ?_
      refine code_region ?_
      refine op_v (v_assign rfl) rfl ?_
      refine ops_nil ?_
      refine post_next ?_
      refine code_ret ?_
      refine post_ret (rs := [.tmp 4]) rfl (List.Perm.refl _) (.cons (.tmp rfl) .nil) (List.nil_sublist _) ?_
      exact ⟨bool_t (List.ext_getElem hl fun j h1 h2 => hp j (by omega) h1 h2), rfl⟩

theorem All2_does : ∀ (n : Nat) (t : T), t.size ≤ n → t.size ≤ 1000000000 → ∀ (I : Imm) (v : Value), RepT I v t →
    Does Try.prog 25 [v] I [] (fun v I' δ' => RPs I' v (allT t) ∧ δ' = []) := by
  intro n
  induction n with
  | zero => intro t ht; have := t.size_pos; omega
  | succ n ih =>
    intro t ht hbig I v hv
    obtain ⟨h, ts⟩ := t
    obtain ⟨ad, c, ss, rfl, hr, hc, hb, hat, hsub⟩ := hv.elim
    have hsz : (T.mk h ts).size = 1 + sizeL ts := by simp [T.size]
    have hAl := allT_length (.mk h ts)
    have hsl := sizeL_len ts
    refine Does.intro Try.func25 rfl Try.ntmps25 rfl fun w0 => ?_
    refine code_seq ?_
    refine code_region ?_
    refine o_box rfl rfl rfl (fun b1 => ?_)
    refine op_v (v_assign rfl) rfl ?_
    refine ops_nil ?_
    refine post_next ?_
    refine code_seq ?_
    refine code_region ?_
    refine o_buildSlice (xs := [(Go.Operand.const (Go.Value.slice none 0 0))]) Try.underlying36 bs25 rfl rfl rfl rfl rfl (fun b7 => ?_)
    refine op_v (v_assign rfl) rfl ?_
    refine ops_nil ?_
    refine post_next ?_
    refine code_seq ?_
    refine code_seq ?_
    refine code_region ?_
    refine op_v (v_assign rfl) rfl ?_
    refine ops_nil ?_
    refine post_next ?_
    refine code_block ?_
    refine code_loop (fun m σ' I' δ' => ∃ (k : Nat) (cur : List (List Int)) (ar : Option Addr) (cr : Nat) (xs : List Value), m = ts.length - k ∧ k ≤ ts.length ∧ σ' = [(1, .pointer (some ⟨b1, 0, none⟩)), (3, .slice ar cur.length cr), (4, .int .i64 k)] ∧ I.le I' ∧ δ' = [.row (.slice ar cur.length cr) 25 1 cur.length xs, .box b1 24 [.int .i64 h, .slice ad ts.length c]] ∧ RowP I' xs cur ∧ cur ++ allL k (ts.drop k) = allT (.mk h ts)) ts.length [(1, .pointer (some ⟨b1, 0, none⟩)), (3, .slice (some ⟨b7, 0, none⟩) [([] : List Int)].length 1), (4, .int .i64 (0 : Nat))] ⟨0, [[]], _, _, _, rfl, Nat.zero_le _, rfl, Imm.le_refl _, rfl, RowP.snoc (RowP.nil _) (RInts.nil _), rfl⟩ ⟨rfl, rfl, rfl, trivial⟩ ?_
    rintro m _ I0 _ ⟨k, cur, ar, cr, xs, rfl, hk, rfl, hI0, rfl, hrow, hall⟩
    refine code_seq ?_
    refine code_seq ?_
    refine code_region ?_
    refine op_v (v_move rfl) rfl ?_
    first | refine op_v (v_fieldB 1 Try.underlying24 rfl rfl fz22 rfl) rfl ?_ | refine op_v (v_fieldI 1 Try.underlying24 rfl rfl fz22 rfl (by assumption)) rfl ?_ | refine op_v (v_field Try.underlying24 rfl fz22 rfl rfl) rfl ?_
    refine op_v (v_load ty22 rfl (by first | exact Has.here | exact Has.there Has.here | exact Has.there (Has.there Has.here) | exact Has.there (Has.there (Has.there Has.here)) | exact Has.there (Has.there (Has.there (Has.there Has.here))) | exact Has.there (Has.there (Has.there (Has.there (Has.there Has.here)))) | exact Has.there (Has.there (Has.there (Has.there (Has.there (Has.there Has.here)))))) rfl) rfl ?_
    refine op_v (v_len Try.underlying22 rfl) rfl ?_
    first | refine op_v (v_cmpt rfl rfl rfl (by first | omega | (simp; done) | (simp; omega))) rfl ?_ | refine op_v (v_cmpf rfl rfl rfl (by first | omega | (simp; done) | (simp; omega))) rfl ?_ | refine op_v (v_cmp rfl rfl rfl) rfl ?_
    refine ops_nil ?_
    refine post_next ?_
    refine code_cond rfl (fun hc0 => ?_) (fun hc0 => ?_)
    · have hlt : k < ts.length := by simpa using hc0
      have hs1 := (hat k hlt).isSome
      have hm := sizeL_mem ts k hlt
      rw [allL_drop ts k hlt, ← List.append_assoc] at hall
      refine code_skip ?_
      refine post_next ?_
      refine code_seq ?_
      refine code_block ?_
      refine code_seq ?_
      refine code_region ?_
      first | refine op_v (v_fieldB 1 Try.underlying24 rfl rfl fz22 rfl) rfl ?_ | refine op_v (v_fieldI 1 Try.underlying24 rfl rfl fz22 rfl (by assumption)) rfl ?_ | refine op_v (v_field Try.underlying24 rfl fz22 rfl rfl) rfl ?_
      refine op_v (v_load ty22 rfl (by first | exact Has.here | exact Has.there Has.here | exact Has.there (Has.there Has.here) | exact Has.there (Has.there (Has.there Has.here)) | exact Has.there (Has.there (Has.there (Has.there Has.here))) | exact Has.there (Has.there (Has.there (Has.there (Has.there Has.here)))) | exact Has.there (Has.there (Has.there (Has.there (Has.there (Has.there Has.here)))))) rfl) rfl ?_
      refine op_v (v_move rfl) rfl ?_
      first | refine op_v (v_index Try.underlying22 sz24 rfl rfl (by omega) (by assumption)) rfl ?_ | refine op_v (v_indexI Try.underlying22 sz24 rfl rfl (by first | omega | (simp; done) | (simp; omega)) (by first | omega | (simp; done) | (simp; omega)) (by assumption)) rfl ?_
      first | refine op_v (v_loadI0 ty24 ((hat k hlt).mono hI0) rfl rfl rfl) rfl ?_ | refine op_v (v_loadI ty24 ((hat k hlt).mono hI0) rfl rfl rfl) rfl ?_
      refine op_call pl25 rfl rfl ((ih ts[k] (by omega) (by omega) _ _ ((hsub k hlt).mono hI0))) Parts.none ?_
      rintro v20 I20 _ hI20 ⟨hv20, rfl⟩
      have hdp := allT_deep ts[k]
      generalize hl : allT ts[k] = l at hv20 hall hdp
      obtain ⟨ld, lc, ys, l, hlc, hlb, hla, hlr⟩ := hv20
      refine op_v (v_assign rfl) rfl ?_
      refine ops_nil ?_
      refine post_next ?_
      refine code_seq ?_
      refine code_region ?_
      refine op_v (v_assign rfl) rfl ?_
      refine ops_nil ?_
      refine post_next ?_
      refine code_block ?_
      refine code_loop (fun m σ' I' δ' => ∃ (j : Nat) (cur : List (List Int)) (ar : Option Addr) (cr : Nat) (xs : List Value), m = l.length - j ∧ j ≤ l.length ∧ σ' = [(1, .pointer (some ⟨b1, 0, none⟩)), (3, .slice ar cur.length cr), (4, .int .i64 k), (5, .slice ld l.length lc), (6, .int .i64 j)] ∧ I20.le I' ∧ δ' = [.row (.slice ar cur.length cr) 25 1 cur.length xs, .box b1 24 [.int .i64 h, .slice ad ts.length c]] ∧ RowP I' xs cur ∧ cur ++ (l.drop j).map ((k : Int) :: ·) ++ allL (k + 1) (ts.drop (k + 1)) = allT (.mk h ts)) l.length [(1, .pointer (some ⟨b1, 0, none⟩)), (3, .slice ar cur.length cr), (4, .int .i64 k), (5, .slice ld l.length lc), (6, .int .i64 (0 : Nat))] ⟨0, cur, ar, cr, xs, rfl, Nat.zero_le _, rfl, Imm.le_refl _, rfl, hrow.mono hI20, hall⟩ ⟨rfl, rfl, rfl, rfl, rfl, trivial⟩ ?_
      clear hall hrow
      rintro m _ I1 _ ⟨j, cur, ar, cr, xs, rfl, hj, rfl, hI1, rfl, hrow, hall⟩
      refine code_seq ?_
      refine code_seq ?_
      refine code_region ?_
      refine op_v (v_move rfl) rfl ?_
      refine op_v (v_move rfl) rfl ?_
      refine op_v (v_len Try.underlying36 rfl) rfl ?_
      first | refine op_v (v_cmpt rfl rfl rfl (by first | omega | (simp; done) | (simp; omega))) rfl ?_ | refine op_v (v_cmpf rfl rfl rfl (by first | omega | (simp; done) | (simp; omega))) rfl ?_ | refine op_v (v_cmp rfl rfl rfl) rfl ?_
      refine ops_nil ?_
      refine post_next ?_
      refine code_cond rfl (fun hc1 => ?_) (fun hc1 => ?_)
      · have hltj : j < l.length := by simpa using hc1
        obtain ⟨pd, pc, hpa, hpr⟩ := RPs.get hla hlr j hltj
        have hs2 := hpa.isSome
        rw [List.drop_eq_getElem_cons hltj, List.map_cons] at hall
        have hcl : cur.length + 1 ≤ (allT (.mk h ts)).length := by rw [← hall]; simp
        have hpl := hdp l[j] (List.getElem_mem hltj)
        refine code_skip ?_
        refine post_next ?_
        refine code_seq ?_
        refine code_block ?_
        refine code_region ?_
        refine op_v (v_move rfl) rfl ?_
        refine op_v (v_move rfl) rfl ?_
        refine op_v (v_move rfl) rfl ?_
        refine op_v (v_move rfl) rfl ?_
        first | refine op_v (v_index Try.underlying36 sz25 rfl rfl (by omega) (by assumption)) rfl ?_ | refine op_v (v_indexI Try.underlying36 sz25 rfl rfl (by first | omega | (simp; done) | (simp; omega)) (by first | omega | (simp; done) | (simp; omega)) (by assumption)) rfl ?_
        first | refine op_v (v_loadI0 ty25 (hpa.mono hI1) rfl rfl rfl) rfl ?_ | refine op_v (v_loadI ty25 (hpa.mono hI1) rfl rfl rfl) rfl ?_
        refine op_call pl56 rfl rfl ((Behind_does (by unfold InR; omega) (hpr.mono hI1) (by omega))) Parts.none ?_
        rintro v33 I33 _ hI33 ⟨hv33, rfl⟩
        obtain ⟨rd, rc, rfl⟩ := hv33.shape
        refine o_buildSlice (xs := [(Go.Operand.tmp 33)]) Try.underlying36 bs25 rfl rfl rfl rfl rfl (fun b34 => ?_)
        refine o_append Try.underlying36 bs25 rfl rfl rfl (fun v' => by first | exact Swap.here | exact Swap.there Swap.here | exact Swap.there (Swap.there Swap.here) | exact Swap.there (Swap.there (Swap.there Swap.here)) | exact Swap.there (Swap.there (Swap.there (Swap.there Swap.here))) | exact Swap.there (Swap.there (Swap.there (Swap.there (Swap.there Swap.here))))) (Src.ofRow (by first | exact Has.here | exact Has.there Has.here | exact Has.there (Has.there Has.here) | exact Has.there (Has.there (Has.there Has.here)) | exact Has.there (Has.there (Has.there (Has.there Has.here))) | exact Has.there (Has.there (Has.there (Has.there (Has.there Has.here)))) | exact Has.there (Has.there (Has.there (Has.there (Has.there (Has.there Has.here)))))) rfl) (by first | rfl | omega | simp) (by simp [cat, cellsL, Value.oneCell']) (by omega) (by omega) (fun a35 c35 => ?_)
        refine op_v (v_assign rfl) rfl ?_
        refine ops_nil ?_
        refine post_out ?_
        refine post_next ?_
        refine code_region ?_
        refine op_v (v_move rfl) rfl ?_
        first | refine op_v (v_addb rfl rfl rfl (by omega)) rfl ?_ | refine op_v (v_add rfl rfl) rfl ?_
        refine op_v (v_assign rfl) rfl ?_
        refine ops_nil ?_
        refine PostJ.view (View.drop Del.here) ?_
        have hlen : cur.length + 1 = (cur ++ [(k : Int) :: l[j]]).length := by simp
        rw [hlen]
        refine post_again (l.length - (j + 1)) [(1, .pointer (some ⟨b1, 0, none⟩)), (3, .slice a35 (cur ++ [(k : Int) :: l[j]]).length c35), (4, .int .i64 k), (5, .slice ld l.length lc), (6, .int .i64 ((j + 1 : Nat) : Int))] (by omega) ⟨j + 1, cur ++ [(k : Int) :: l[j]], a35, c35, xs ++ [_], rfl, hltj, rfl, Imm.le_trans hI1 hI33, rfl, (hrow.mono hI33).snoc hv33, by simpa using hall⟩ ⟨rfl, rfl, rfl, rfl, rfl, trivial⟩
      · have hgej : j = l.length := by simp at hc1; omega
        subst hgej
        rw [List.drop_length] at hall
        simp only [List.map_nil, List.append_nil] at hall
        refine code_exit ?_
        refine post_exit_then ?_
        refine post_exit_then ?_
        refine post_exit ?_
        refine post_out ?_
        refine post_next ?_
        refine code_region ?_
        refine op_v (v_move rfl) rfl ?_
        first | refine op_v (v_addb rfl rfl rfl (by omega)) rfl ?_ | refine op_v (v_add rfl rfl) rfl ?_
        refine op_v (v_assign rfl) rfl ?_
        refine ops_nil ?_
        refine post_again (ts.length - (k + 1)) [(1, .pointer (some ⟨b1, 0, none⟩)), (3, .slice ar cur.length cr), (4, .int .i64 ((k + 1 : Nat) : Int))] (by omega) ⟨k + 1, cur, ar, cr, xs, rfl, hlt, rfl, Imm.le_trans hI0 (Imm.le_trans hI20 hI1), rfl, hrow, hall⟩ ⟨rfl, rfl, rfl, trivial⟩
    · have hge : k = ts.length := by simp at hc0; omega
      subst hge
      rw [List.drop_length] at hall
      simp only [allL, List.append_nil] at hall
      rw [← hall] at hAl ⊢
      refine code_exit ?_
      refine post_exit_then ?_
      refine post_exit_then ?_
      refine post_exit ?_
      refine post_next ?_
      refine code_seq ?_
      refine code_region ?_
      refine OpsJ.freezeRow Del.here ?_
      rintro I26 ar cr hI26 hvr hcr hlr hcells
      cases hvr
      refine op_v (v_move rfl) rfl ?_
      refine op_v (v_assign rfl) rfl ?_
      refine ops_nil ?_
      refine post_next ?_
      refine code_ret ?_
      refine post_ret (rs := [.tmp 2]) rfl (List.Perm.refl _) (.cons (.tmp rfl) .nil) (List.nil_sublist _) ?_
      exact ⟨RPs.of rfl hcr (by omega) hcells (hrow.mono hI26), rfl⟩
end Go.Proofs.Ytdcklngleglbbaa
