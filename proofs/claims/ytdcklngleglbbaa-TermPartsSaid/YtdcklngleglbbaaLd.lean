/- Walk: the statement on a term's arguments. -/
import Derived.Test.YtdcklngleglbbaaLa
set_option linter.unusedVariables false
set_option linter.unusedSimpArgs false
namespace Go.Proofs.Ytdcklngleglbbaa
open Go Lg

theorem cmp_lessT {u t : T} (h : u.size < t.size) : cmpT u t = -1 := by
  obtain ⟨a, p⟩ := u
  obtain ⟨b, q⟩ := t
  simp only [T.size] at h
  simp only [cmpT]
  rw [if_pos (by omega)]
  unfold ordI
  rw [if_pos (by omega)]
theorem sizeL_take (l : List T) (k : Nat) (h : k < l.length) : sizeL (l.take (k + 1)) = sizeL (l.take k) + l[k].size := by
  rw [List.take_succ_eq_append_getElem h, sizeL_app]; simp [sizeL]
theorem depL_app (a b : List T) : depL (a ++ b) = max (depL a) (depL b) := by
  induction a with
  | nil => simp [depL]
  | cons x r ih => simp only [List.cons_append, depL, ih, Nat.max_assoc]
theorem depL_take (l : List T) (k : Nat) (h : k < l.length) : depL (l.take (k + 1)) = max (depL (l.take k)) (depT l[k]) := by
  rw [List.take_succ_eq_append_getElem h, depL_app]; simp [depL]
theorem depL_mem : ∀ (l : List T) (k : Nat) (h : k < l.length), depT l[k] ≤ depL l
  | t :: r, 0, _ => by simp only [depL, List.getElem_cons_zero]; omega
  | t :: r, k + 1, h => by have := depL_mem r k (by simpa using h); simp [depL]; omega
theorem sizeL_few : ∀ (l : List T) (m : Nat), (∀ t ∈ l, t.size ≤ m) → sizeL l ≤ l.length * m
  | [], _, _ => by simp [sizeL]
  | t :: r, m, h => by
    have h1 := h t (List.mem_cons_self ..)
    have h2 := sizeL_few r m (fun x hx => h x (List.mem_cons_of_mem _ hx))
    simp only [sizeL, List.length_cons, Nat.add_mul]; omega
mutual
theorem any_T : ∀ (d e : Nat) (t : T), (partsT d t).any badN = (partsT e t).any badN
  | d, e, .mk h ts => by
    simp only [partsT, List.any_cons]
    rw [any_L (d + 1) (e + 1) ts]
    rfl
theorem any_L : ∀ (d e : Nat) (ts : List T), (partsL d ts).any badN = (partsL e ts).any badN
  | _, _, [] => rfl
  | d, e, t :: r => by simp only [partsL, List.any_append]; rw [any_T d e t, any_L d e r]
end
theorem any_mem : ∀ (d : Nat) (l : List T) (k : Nat) (h : k < l.length), (partsL d l).any badN = false → (partsT d l[k]).any badN = false
  | d, t :: r, 0, _, h => by simp only [partsL, List.any_append, Bool.or_eq_false_iff] at h; exact h.1
  | d, t :: r, k + 1, hk, h => by
    simp only [partsL, List.any_append, Bool.or_eq_false_iff] at h
    exact any_mem d r k (by simpa using hk) h.2
theorem chk_part {h : Int} {ts : List T} (hc : chkT (.mk h ts) = 0) (k : Nat) (hk : k < ts.length) : chkT ts[k] = 0 := by
  have h1 := sizeL_mem ts k hk
  have h2 := depL_mem ts k hk
  have hsz : (T.mk h ts).size = 1 + sizeL ts := by simp [T.size]
  have hdp : depT (T.mk h ts) = 1 + depL ts := by simp [depT]
  unfold chkT at hc
  rw [hsz, hdp] at hc
  by_cases q1 : 400 < 1 + sizeL ts
  · rw [if_pos q1] at hc; omega
  · rw [if_neg q1] at hc
    by_cases q2 : 40 < 1 + depL ts
    · rw [if_pos q2] at hc; omega
    · rw [if_neg q2] at hc
      by_cases q3 : (partsT 1 (.mk h ts)).any badN = true
      · rw [if_pos q3] at hc; omega
      · have q4 : (partsL 2 ts).any badN = false := by
          simp only [partsT, List.any_cons, Bool.or_eq_true, not_or] at q3
          simpa using q3.2
        have q5 := any_mem 2 ts k hk q4
        rw [any_T 2 1] at q5
        unfold chkT
        rw [if_neg (by omega), if_neg (by omega), q5]
        rfl

theorem TermParts_walk {I : Imm} {h : Int} {s : Value} {ts : List T} (hh : InR h) (hs : RepS I s ts) :
    Does Try.prog 11 [.int .i64 h, s] I [] (fun v I' δ' => v = .bool true ∧ δ' = []) := by
  have hs' := hs
  obtain ⟨ad, c, ss, ts, hc, hb, hat, hr, hsub0⟩ := hs
  have hsub : ∀ i (h : i < ts.length), RepT I (.agg #[.int .i64 ts[i].head, .slice (ss i).1 ts[i].args.length (ss i).2]) ts[i] := fun i hi => RepT.mk _ _ (hr i hi) (hsub0 i hi)
  have hrep : RepT I (.agg #[.int .i64 h, .slice ad ts.length c]) (.mk h ts) := RepT.mk _ (.mk h ts) hh hs'
  refine Does.intro Try.func11 rfl Try.ntmps11 rfl fun w0 => ?_
  refine code_seq ?_
  refine code_region ?_
  refine op_v (v_assign rfl) rfl ?_
  refine ops_nil ?_
  refine post_next ?_
  refine code_seq ?_
  refine code_region ?_
  refine op_v (v_assign rfl) rfl ?_
  refine ops_nil ?_
  refine post_next ?_
  refine code_seq ?_
  refine code_region ?_
  refine op_v (v_assign rfl) rfl ?_
  refine ops_nil ?_
  refine post_next ?_
  refine code_seq ?_
  refine code_seq ?_
  refine code_region ?_
  refine op_v (v_assign rfl) rfl ?_
  refine ops_nil ?_
  refine post_next ?_
  refine code_block ?_
  refine code_loop (fun m σ' I' δ' => ∃ k : Nat, m = ts.length - k ∧ k ≤ ts.length ∧ k ≤ 30 ∧ σ' = [(0, .int .i64 h), (1, .slice ad ts.length c), (5, .int .i64 ((1 + sizeL (ts.take k) : Nat) : Int)), (6, .int .i64 (depL (ts.take k))), (7, .int .i64 k)] ∧ I.le I' ∧ δ' = [] ∧ ∀ t ∈ ts.take k, t.size ≤ 500) ts.length [(0, .int .i64 h), (1, .slice ad ts.length c), (5, .int .i64 ((1 : Nat) : Int)), (6, .int .i64 ((0 : Nat) : Int)), (7, .int .i64 (0 : Nat))] ⟨0, rfl, Nat.zero_le _, by omega, rfl, Imm.le_refl _, rfl, by simp⟩ ⟨rfl, rfl, rfl, rfl, rfl, trivial⟩ ?_
  rintro m _ I0 _ ⟨k, rfl, hk, hk30, rfl, hI0, rfl, hfew⟩
  have hsl := sizeL_few _ _ hfew
  rw [List.length_take] at hsl
  have hdl := depL_size (ts.take k)
  refine code_seq ?_
  refine code_seq ?_
  refine code_region ?_
  refine op_v (v_move rfl) rfl ?_
  refine op_v (v_move rfl) rfl ?_
  refine op_v (v_len Try.underlying22 rfl) rfl ?_
  by_cases hlt : k < ts.length
  · first | refine op_v (v_cmpt rfl rfl rfl (by first | omega | (simp; done) | (simp; omega))) rfl ?_ | refine op_v (v_cmpf rfl rfl rfl (by first | omega | (simp; done) | (simp; omega))) rfl ?_ | refine op_v (v_cmp rfl rfl rfl) rfl ?_
    refine op_v (v_move rfl) rfl ?_
    first
      | (refine op_want rfl rfl ?_
         refine op_v (v_move rfl) rfl ?_)
      | (refine op_skip rfl rfl (by simp [undef]) rfl ?_)
    by_cases h30 : k < 30
    · first
        | (refine op_want rfl rfl ?_
           first | refine op_v (v_cmpt rfl rfl rfl (by first | omega | (simp; done) | (simp; omega))) rfl ?_ | refine op_v (v_cmpf rfl rfl rfl (by first | omega | (simp; done) | (simp; omega))) rfl ?_ | refine op_v (v_cmp rfl rfl rfl) rfl ?_)
        | (refine op_skip rfl rfl (by simp [undef]) rfl ?_)
      first | refine op_v (v_pickt rfl rfl) rfl ?_ | refine op_v (v_pickf rfl rfl) rfl ?_ | refine op_v (v_pickb rfl rfl rfl) rfl ?_
      refine ops_nil ?_
      refine post_next ?_
      refine code_cond_t rfl ?_
      refine code_skip ?_
      refine post_next ?_
      refine code_seq ?_
      refine code_block ?_
      refine code_seq ?_
      refine code_seq ?_
      refine code_region ?_
      have hs1 := (hat k hlt).isSome
      refine op_v (v_move rfl) rfl ?_
      refine op_v (v_move rfl) rfl ?_
      first | refine op_v (v_index Try.underlying22 sz24 rfl rfl (by omega) (by assumption)) rfl ?_ | refine op_v (v_indexI Try.underlying22 sz24 rfl rfl (by first | omega | (simp; done) | (simp; omega)) (by first | omega | (simp; done) | (simp; omega)) (by assumption)) rfl ?_
      first | refine op_v (v_loadI0 ty24 ((hat k hlt).mono hI0) rfl rfl rfl) rfl ?_ | refine op_v (v_loadI ty24 ((hat k hlt).mono hI0) rfl rfl rfl) rfl ?_
      by_cases hf : ts[k].size ≤ 500
      · refine op_call pl16 rfl rfl ((FewT_is ((hsub k hlt).mono hI0) (b := decide (ts[k].size ≤ 500)) rfl)) Parts.none ?_
        rintro v24 I24 _ hI24 ⟨rfl, rfl⟩
        rw [decide_eq_true hf]
        refine op_v (v_not rfl) rfl ?_
        refine ops_nil ?_
        refine post_next ?_
        refine code_cond_f rfl ?_
        refine code_skip ?_
        refine post_next ?_
        refine code_seq ?_
        refine code_region ?_
        refine op_v (v_move rfl) rfl ?_
        refine op_v (v_move rfl) rfl ?_
        refine op_v (v_move rfl) rfl ?_
        first | refine op_v (v_index Try.underlying22 sz24 rfl rfl (by omega) (by assumption)) rfl ?_ | refine op_v (v_indexI Try.underlying22 sz24 rfl rfl (by first | omega | (simp; done) | (simp; omega)) (by first | omega | (simp; done) | (simp; omega)) (by assumption)) rfl ?_
        first | refine op_v (v_loadI0 ty24 ((hat k hlt).mono (by repeat (first | exact Imm.le_refl _ | assumption | refine Imm.le_trans ?_ (by assumption)))) rfl rfl rfl) rfl ?_ | refine op_v (v_loadI ty24 ((hat k hlt).mono (by repeat (first | exact Imm.le_refl _ | assumption | refine Imm.le_trans ?_ (by assumption)))) rfl rfl rfl) rfl ?_
        refine op_call pl41 rfl rfl ((TSize_does ((hsub k hlt).mono (by repeat (first | exact Imm.le_refl _ | assumption | refine Imm.le_trans ?_ (by assumption)))) (by omega))) Parts.none ?_
        rintro v31 I31 _ hI31 ⟨rfl, rfl⟩
        first | refine op_v (v_addb rfl rfl rfl (by omega)) rfl ?_ | refine op_v (v_add rfl rfl) rfl ?_
        refine op_v (v_assign rfl) rfl ?_
        refine ops_nil ?_
        refine post_next ?_
        refine code_region ?_
        refine op_v (v_move rfl) rfl ?_
        refine op_v (v_move rfl) rfl ?_
        refine op_v (v_move rfl) rfl ?_
        first | refine op_v (v_index Try.underlying22 sz24 rfl rfl (by omega) (by assumption)) rfl ?_ | refine op_v (v_indexI Try.underlying22 sz24 rfl rfl (by first | omega | (simp; done) | (simp; omega)) (by first | omega | (simp; done) | (simp; omega)) (by assumption)) rfl ?_
        first | refine op_v (v_loadI0 ty24 ((hat k hlt).mono (by repeat (first | exact Imm.le_refl _ | assumption | refine Imm.le_trans ?_ (by assumption)))) rfl rfl rfl) rfl ?_ | refine op_v (v_loadI ty24 ((hat k hlt).mono (by repeat (first | exact Imm.le_refl _ | assumption | refine Imm.le_trans ?_ (by assumption)))) rfl rfl rfl) rfl ?_
        refine op_call pl42 rfl rfl ((TDepth_does ((hsub k hlt).mono (by repeat (first | exact Imm.le_refl _ | assumption | refine Imm.le_trans ?_ (by assumption)))) (by omega))) Parts.none ?_
        rintro v38 I38 _ hI38 ⟨rfl, rfl⟩
        refine op_v (v_max rfl rfl) rfl ?_
        refine op_v (v_assign rfl) rfl ?_
        refine ops_nil ?_
        refine post_out ?_
        refine post_next ?_
        refine code_region ?_
        refine op_v (v_move rfl) rfl ?_
        first | refine op_v (v_addb rfl rfl rfl (by omega)) rfl ?_ | refine op_v (v_add rfl rfl) rfl ?_
        refine op_v (v_assign rfl) rfl ?_
        refine ops_nil ?_
        have e1 : ((1 + sizeL (ts.take k) : Nat) : Int) + (ts[k].size : Int) = ((1 + sizeL (ts.take (k + 1)) : Nat) : Int) := by rw [sizeL_take ts k hlt]; omega
        have e2 : max ((depL (ts.take k) : Nat) : Int) ((depT ts[k] : Nat) : Int) = ((depL (ts.take (k + 1)) : Nat) : Int) := by rw [depL_take ts k hlt]; omega
        rw [e1, e2]
        refine post_again (ts.length - (k + 1)) [(0, .int .i64 h), (1, .slice ad ts.length c), (5, .int .i64 ((1 + sizeL (ts.take (k + 1)) : Nat) : Int)), (6, .int .i64 (depL (ts.take (k + 1)))), (7, .int .i64 ((k + 1 : Nat) : Int))] (by omega) ⟨k + 1, rfl, hlt, h30, rfl, (by repeat (first | exact Imm.le_refl _ | assumption | refine Imm.le_trans ?_ (by assumption))), rfl, ?_⟩ ⟨rfl, rfl, rfl, rfl, rfl, trivial⟩
        intro t ht
        rw [List.take_succ_eq_append_getElem hlt] at ht
        rcases List.mem_append.1 ht with ht | ht
        · exact hfew t ht
        · rw [List.mem_singleton] at ht; subst ht; exact hf
      · refine op_call pl16 rfl rfl ((FewT_is ((hsub k hlt).mono hI0) (b := decide (ts[k].size ≤ 500)) rfl)) Parts.none ?_
        rintro v24 I24 _ hI24 ⟨rfl, rfl⟩
        rw [decide_eq_false hf]
        refine op_v (v_not rfl) rfl ?_
        refine ops_nil ?_
        refine post_next ?_
        refine code_cond_t rfl ?_
        refine code_seq ?_
        refine code_region ?_
        refine op_v (v_assign rfl) rfl ?_
        refine ops_nil ?_
        refine post_next ?_
        refine code_ret ?_
        refine post_ret_then ?_
        refine post_ret_block ?_
        refine post_ret_then ?_
        refine post_ret_then ?_
        refine post_ret_block ?_
        refine post_ret_then ?_
        refine post_ret (rs := [.tmp 4]) rfl (List.Perm.refl _) (.cons (.tmp rfl) .nil) (List.nil_sublist _) ?_
        exact ⟨rfl, rfl⟩
    · first
        | (refine op_want rfl rfl ?_
           first | refine op_v (v_cmpt rfl rfl rfl (by first | omega | (simp; done) | (simp; omega))) rfl ?_ | refine op_v (v_cmpf rfl rfl rfl (by first | omega | (simp; done) | (simp; omega))) rfl ?_ | refine op_v (v_cmp rfl rfl rfl) rfl ?_)
        | (refine op_skip rfl rfl (by simp [undef]) rfl ?_)
      first | refine op_v (v_pickt rfl rfl) rfl ?_ | refine op_v (v_pickf rfl rfl) rfl ?_ | refine op_v (v_pickb rfl rfl rfl) rfl ?_
      refine ops_nil ?_
      refine post_next ?_
      refine code_cond_f rfl ?_
      refine code_exit ?_
      refine post_exit_then ?_
      refine post_exit_then ?_
      refine post_exit ?_
      refine post_next ?_
      refine code_seq ?_
      refine code_seq ?_
      refine code_region ?_
      refine op_v (v_move rfl) rfl ?_
      refine op_v (v_len Try.underlying22 rfl) rfl ?_
      first | refine op_v (v_cmpt rfl rfl rfl (by first | omega | (simp; done) | (simp; omega))) rfl ?_ | refine op_v (v_cmpf rfl rfl rfl (by first | omega | (simp; done) | (simp; omega))) rfl ?_ | refine op_v (v_cmp rfl rfl rfl) rfl ?_
      refine ops_nil ?_
      refine post_next ?_
      refine code_cond_t rfl ?_
      refine code_seq ?_
      refine code_region ?_
      refine op_v (v_assign rfl) rfl ?_
      refine ops_nil ?_
      refine post_next ?_
      refine code_ret ?_
      refine post_ret_then ?_
      refine post_ret (rs := [.tmp 4]) rfl (List.Perm.refl _) (.cons (.tmp rfl) .nil) (List.nil_sublist _) ?_
      exact ⟨rfl, rfl⟩
  · first | refine op_v (v_cmpt rfl rfl rfl (by first | omega | (simp; done) | (simp; omega))) rfl ?_ | refine op_v (v_cmpf rfl rfl rfl (by first | omega | (simp; done) | (simp; omega))) rfl ?_ | refine op_v (v_cmp rfl rfl rfl) rfl ?_
    refine op_v (v_move rfl) rfl ?_
    first
      | (refine op_want rfl rfl ?_
         refine op_v (v_move rfl) rfl ?_)
      | (refine op_skip rfl rfl (by simp [undef]) rfl ?_)
    first
      | (refine op_want rfl rfl ?_
         first | refine op_v (v_cmpt rfl rfl rfl (by first | omega | (simp; done) | (simp; omega))) rfl ?_ | refine op_v (v_cmpf rfl rfl rfl (by first | omega | (simp; done) | (simp; omega))) rfl ?_ | refine op_v (v_cmp rfl rfl rfl) rfl ?_)
      | (refine op_skip rfl rfl (by simp [undef]) rfl ?_)
    first | refine op_v (v_pickt rfl rfl) rfl ?_ | refine op_v (v_pickf rfl rfl) rfl ?_ | refine op_v (v_pickb rfl rfl rfl) rfl ?_
    refine ops_nil ?_
    refine post_next ?_
    refine code_cond_f rfl ?_
    refine code_exit ?_
    refine post_exit_then ?_
    refine post_exit_then ?_
    refine post_exit ?_
    refine post_next ?_
    refine code_seq ?_
    refine code_seq ?_
    refine code_region ?_
    refine op_v (v_move rfl) rfl ?_
    refine op_v (v_len Try.underlying22 rfl) rfl ?_
    first | refine op_v (v_cmpt rfl rfl rfl (by first | omega | (simp; done) | (simp; omega))) rfl ?_ | refine op_v (v_cmpf rfl rfl rfl (by first | omega | (simp; done) | (simp; omega))) rfl ?_ | refine op_v (v_cmp rfl rfl rfl) rfl ?_
    refine ops_nil ?_
    refine post_next ?_
    refine code_cond_f rfl ?_
    refine code_skip ?_
    refine post_next ?_
    refine code_seq ?_
    refine code_region ?_
    have hkl : k = ts.length := by omega
    subst hkl
    rw [List.take_length] at hsl hdl ⊢
    have hsz : (T.mk h ts).size = 1 + sizeL ts := by simp [T.size]
    have hdp : depT (T.mk h ts) = 1 + depL ts := by simp [depT]
    refine op_v (v_move rfl) rfl ?_
    refine op_v (v_move rfl) rfl ?_
    refine op_v (v_build bl24 rfl rfl) rfl ?_
    refine o_alloc z24 rfl rfl (fun b8 => ?_)
    refine o_store ty24 rfl rfl rfl rfl rfl (by first | exact Swap.here | exact Swap.there Swap.here | exact Swap.there (Swap.there Swap.here) | exact Swap.there (Swap.there (Swap.there Swap.here)) | exact Swap.there (Swap.there (Swap.there (Swap.there Swap.here))) | exact Swap.there (Swap.there (Swap.there (Swap.there (Swap.there Swap.here))))) rfl ?_
    refine ops_nil ?_
    refine post_next ?_
    refine code_seq ?_
    refine code_seq ?_
    refine code_region ?_
    refine op_v (v_load ty24 rfl (by first | exact Has.here | exact Has.there Has.here | exact Has.there (Has.there Has.here) | exact Has.there (Has.there (Has.there Has.here)) | exact Has.there (Has.there (Has.there (Has.there Has.here))) | exact Has.there (Has.there (Has.there (Has.there (Has.there Has.here)))) | exact Has.there (Has.there (Has.there (Has.there (Has.there (Has.there Has.here)))))) rfl) rfl ?_
    refine op_call pl41 rfl rfl ((TSize_does (hrep.mono (by repeat (first | exact Imm.le_refl _ | assumption | refine Imm.le_trans ?_ (by assumption)))) (by omega))) Parts.none ?_
    rintro v47 I47 _ hI47 ⟨rfl, rfl⟩
    rw [hsz]
    refine op_v (v_move rfl) rfl ?_
    first | refine op_v (v_cmpt rfl rfl rfl (by first | omega | (simp; done) | (simp; omega))) rfl ?_ | refine op_v (v_cmpf rfl rfl rfl (by first | omega | (simp; done) | (simp; omega))) rfl ?_ | refine op_v (v_cmp rfl rfl rfl) rfl ?_
    refine op_v (v_move rfl) rfl ?_
    first
      | (refine op_want rfl rfl ?_
         refine op_v (v_load ty24 rfl (by first | exact Has.here | exact Has.there Has.here | exact Has.there (Has.there Has.here) | exact Has.there (Has.there (Has.there Has.here)) | exact Has.there (Has.there (Has.there (Has.there Has.here))) | exact Has.there (Has.there (Has.there (Has.there (Has.there Has.here)))) | exact Has.there (Has.there (Has.there (Has.there (Has.there (Has.there Has.here)))))) rfl) rfl ?_)
      | (refine op_skip rfl rfl (by simp [undef]) rfl ?_)
    first
      | (refine op_want rfl rfl ?_
         refine op_call pl42 rfl rfl ((TDepth_does (hrep.mono (by repeat (first | exact Imm.le_refl _ | assumption | refine Imm.le_trans ?_ (by assumption)))) (by omega))) Parts.none ?_
         rintro v52 I52 _ hI52 ⟨rfl, rfl⟩
         rw [hdp])
      | (refine op_skip rfl rfl (by simp [undef]) rfl ?_)
    first
      | (refine op_want rfl rfl ?_
         refine op_v (v_move rfl) rfl ?_)
      | (refine op_skip rfl rfl (by simp [undef]) rfl ?_)
    first
      | (refine op_want rfl rfl ?_
         first | refine op_v (v_addb rfl rfl rfl (by omega)) rfl ?_ | refine op_v (v_add rfl rfl) rfl ?_)
      | (refine op_skip rfl rfl (by simp [undef]) rfl ?_)
    first
      | (refine op_want rfl rfl ?_
         first | refine op_v (v_cmpt rfl rfl rfl (by first | omega | (simp; done) | (simp; omega))) rfl ?_ | refine op_v (v_cmpf rfl rfl rfl (by first | omega | (simp; done) | (simp; omega))) rfl ?_ | refine op_v (v_cmp rfl rfl rfl) rfl ?_)
      | (refine op_skip rfl rfl (by simp [undef]) rfl ?_)
    first | refine op_v (v_pickt rfl rfl) rfl ?_ | refine op_v (v_pickf rfl rfl) rfl ?_ | refine op_v (v_pickb rfl rfl rfl) rfl ?_
    refine ops_nil ?_
    refine post_next ?_
    refine code_cond_f rfl ?_
    refine code_skip ?_
    refine post_next ?_
    refine code_seq ?_
    refine code_seq ?_
    refine code_region ?_
    refine op_v (v_assign rfl) rfl ?_
    refine ops_nil ?_
    refine post_next ?_
    refine code_block ?_
    refine code_loop (fun m σ' I' δ' => ∃ k : Nat, m = ts.length - k ∧ k ≤ ts.length ∧ σ' = [(1, .slice ad ts.length c), (8, .pointer (some ⟨b8, 0, none⟩)), (9, .int .i64 k)] ∧ I.le I' ∧ δ' = [.box b8 24 [.int .i64 h, .slice ad ts.length c]]) ts.length [(1, .slice ad ts.length c), (8, .pointer (some ⟨b8, 0, none⟩)), (9, .int .i64 (0 : Nat))] ⟨0, rfl, Nat.zero_le _, rfl, (by repeat (first | exact Imm.le_refl _ | assumption | refine Imm.le_trans ?_ (by assumption))), rfl⟩ ⟨rfl, rfl, rfl, trivial⟩ ?_
    rintro m _ I5 _ ⟨k, rfl, hk, rfl, hI5, rfl⟩
    refine code_seq ?_
    refine code_seq ?_
    refine code_region ?_
    refine op_v (v_move rfl) rfl ?_
    refine op_v (v_move rfl) rfl ?_
    refine op_v (v_len Try.underlying22 rfl) rfl ?_
    first | refine op_v (v_cmpt rfl rfl rfl (by first | omega | (simp; done) | (simp; omega))) rfl ?_ | refine op_v (v_cmpf rfl rfl rfl (by first | omega | (simp; done) | (simp; omega))) rfl ?_ | refine op_v (v_cmp rfl rfl rfl) rfl ?_
    refine ops_nil ?_
    refine post_next ?_
    refine code_cond rfl (fun hc4 => ?_) (fun hc4 => ?_)
    · have hlt : k < ts.length := by simpa using hc4
      have hs1 := (hat k hlt).isSome
      have hm := sizeL_mem ts k hlt
      have hcmp := cmp_lessT (u := ts[k]) (t := .mk h ts) (by omega)
      have hne : ts[k] ≠ .mk h ts := fun e => by rw [e] at hm; omega
      refine code_skip ?_
      refine post_next ?_
      refine code_seq ?_
      refine code_block ?_
      refine code_seq ?_
      refine code_draw (.fl 0 (.fl 1 (.fl 2 (.fl 3 (.fl 4 (.ef 5 (.fl 6 (.fl 7 (.fl 8 (.fl 9 (.fl 10 (.fl 11 (.fl 12 (.ef 13 (.fl 14 (.fl 15 (.fl 16 (.ef 17 (.fl 18 (.fl 19 (.fl 20 (.fl 21 (.fl 22 (.fl 23 (.ef 24 (.fl 25 (.fl 26 (.fl 27 .done)))))))))))))))))))))))))))) (fun _ => _) mixed (by kernel_rfl) (by kernel_rfl) (fun _ => (List.Sublist.refl _)) ?_
      refine e_float rfl rfl (fun hs_ => PF.mk rfl (v_move rfl) hs_) (by repeat (first | exact Imm.le_refl _ | assumption | refine Imm.le_trans ?_ (by assumption))) (by intro x hx; first | exact hx | exact List.mem_cons_of_mem _ hx | exact List.mem_append_right _ hx | (simp only [List.mem_cons, List.not_mem_nil, or_false] at hx; repeat' (first | (subst hx; simp [cellsL]; done) | rcases hx with hx | hx)) | simp_all) ?_
      refine e_float rfl rfl (fun hs_ => PF.mk rfl (v_move rfl) hs_) (by repeat (first | exact Imm.le_refl _ | assumption | refine Imm.le_trans ?_ (by assumption))) (by intro x hx; first | exact hx | exact List.mem_cons_of_mem _ hx | exact List.mem_append_right _ hx | (simp only [List.mem_cons, List.not_mem_nil, or_false] at hx; repeat' (first | (subst hx; simp [cellsL]; done) | rcases hx with hx | hx)) | simp_all) ?_
      first | refine e_float rfl rfl (fun hs_ => PF.mk rfl (v_index Try.underlying22 sz24 rfl rfl (by omega) (by assumption)) hs_) (by repeat (first | exact Imm.le_refl _ | assumption | refine Imm.le_trans ?_ (by assumption))) (by intro x hx; first | exact hx | exact List.mem_cons_of_mem _ hx | exact List.mem_append_right _ hx | (simp only [List.mem_cons, List.not_mem_nil, or_false] at hx; repeat' (first | (subst hx; simp [cellsL]; done) | rcases hx with hx | hx)) | simp_all) ?_ | refine e_float rfl rfl (fun hs_ => PF.mk rfl (v_indexI Try.underlying22 sz24 rfl rfl (by first | omega | (simp; done) | (simp; omega)) (by first | omega | (simp; done) | (simp; omega)) (by assumption)) hs_) (by repeat (first | exact Imm.le_refl _ | assumption | refine Imm.le_trans ?_ (by assumption))) (by intro x hx; first | exact hx | exact List.mem_cons_of_mem _ hx | exact List.mem_append_right _ hx | (simp only [List.mem_cons, List.not_mem_nil, or_false] at hx; repeat' (first | (subst hx; simp [cellsL]; done) | rcases hx with hx | hx)) | simp_all) ?_
      first | refine e_float rfl rfl (fun hs_ => PF.mk rfl (v_loadI0 ty24 ((hat k hlt).mono hI5) rfl rfl rfl) hs_) (by repeat (first | exact Imm.le_refl _ | assumption | refine Imm.le_trans ?_ (by assumption))) (by intro x hx; first | exact hx | exact List.mem_cons_of_mem _ hx | exact List.mem_append_right _ hx | (simp only [List.mem_cons, List.not_mem_nil, or_false] at hx; repeat' (first | (subst hx; simp [cellsL]; done) | rcases hx with hx | hx)) | simp_all) ?_ | refine e_float rfl rfl (fun hs_ => PF.mk rfl (v_loadI ty24 ((hat k hlt).mono hI5) rfl rfl rfl) hs_) (by repeat (first | exact Imm.le_refl _ | assumption | refine Imm.le_trans ?_ (by assumption))) (by intro x hx; first | exact hx | exact List.mem_cons_of_mem _ hx | exact List.mem_append_right _ hx | (simp only [List.mem_cons, List.not_mem_nil, or_false] at hx; repeat' (first | (subst hx; simp [cellsL]; done) | rcases hx with hx | hx)) | simp_all) ?_
      refine e_float rfl rfl (fun hs_ => PF.mk rfl (v_load ty24 rfl (by first | exact Has.here | exact Has.there Has.here | exact Has.there (Has.there Has.here) | exact Has.there (Has.there (Has.there Has.here)) | exact Has.there (Has.there (Has.there (Has.there Has.here))) | exact Has.there (Has.there (Has.there (Has.there (Has.there Has.here)))) | exact Has.there (Has.there (Has.there (Has.there (Has.there (Has.there Has.here)))))) rfl) hs_) (by repeat (first | exact Imm.le_refl _ | assumption | refine Imm.le_trans ?_ (by assumption))) (by intro x hx; first | exact hx | exact List.mem_cons_of_mem _ hx | exact List.mem_append_right _ hx | (simp only [List.mem_cons, List.not_mem_nil, or_false] at hx; repeat' (first | (subst hx; simp [cellsL]; done) | rcases hx with hx | hx)) | simp_all) ?_
      refine e_eff rfl (by intro cs b hc; cases hc) (by intro c hc; cases hc) ?_
      refine op_call pl39 rfl rfl ((TCompare_does ((hsub k hlt).mono (by repeat (first | exact Imm.le_refl _ | assumption | refine Imm.le_trans ?_ (by assumption)))) (hrep.mono (by repeat (first | exact Imm.le_refl _ | assumption | refine Imm.le_trans ?_ (by assumption)))) (by omega) (by omega))) Parts.none ?_
      rintro v68 I68 _ hI68 ⟨rfl, rfl⟩
      rw [hcmp]
      refine ops_nil ?_
      refine e_next rfl (side_all (by repeat (first | exact Imm.le_refl _ | assumption | refine Imm.le_trans ?_ (by assumption))) (fun _ => (by intro x hx; first | exact hx | exact List.mem_cons_of_mem _ hx | exact List.mem_append_right _ hx | (simp only [List.mem_cons, List.not_mem_nil, or_false] at hx; repeat' (first | (subst hx; simp [cellsL]; done) | rcases hx with hx | hx)) | simp_all))) ?_
      first | refine e_float rfl rfl (fun hs_ => PF.mk rfl (v_cmpt rfl rfl rfl (by first | omega | (simp; done) | (simp; omega))) hs_) (by repeat (first | exact Imm.le_refl _ | assumption | refine Imm.le_trans ?_ (by assumption))) (by intro x hx; first | exact hx | exact List.mem_cons_of_mem _ hx | exact List.mem_append_right _ hx | (simp only [List.mem_cons, List.not_mem_nil, or_false] at hx; repeat' (first | (subst hx; simp [cellsL]; done) | rcases hx with hx | hx)) | simp_all) ?_ | refine e_float rfl rfl (fun hs_ => PF.mk rfl (v_cmpf rfl rfl rfl (by first | omega | (simp; done) | (simp; omega))) hs_) (by repeat (first | exact Imm.le_refl _ | assumption | refine Imm.le_trans ?_ (by assumption))) (by intro x hx; first | exact hx | exact List.mem_cons_of_mem _ hx | exact List.mem_append_right _ hx | (simp only [List.mem_cons, List.not_mem_nil, or_false] at hx; repeat' (first | (subst hx; simp [cellsL]; done) | rcases hx with hx | hx)) | simp_all) ?_ | refine e_float rfl rfl (fun hs_ => PF.mk rfl (v_cmp rfl rfl rfl) hs_) (by repeat (first | exact Imm.le_refl _ | assumption | refine Imm.le_trans ?_ (by assumption))) (by intro x hx; first | exact hx | exact List.mem_cons_of_mem _ hx | exact List.mem_append_right _ hx | (simp only [List.mem_cons, List.not_mem_nil, or_false] at hx; repeat' (first | (subst hx; simp [cellsL]; done) | rcases hx with hx | hx)) | simp_all) ?_
      refine e_float rfl rfl (fun hs_ => PF.mk rfl (v_move rfl) hs_) (by repeat (first | exact Imm.le_refl _ | assumption | refine Imm.le_trans ?_ (by assumption))) (by intro x hx; first | exact hx | exact List.mem_cons_of_mem _ hx | exact List.mem_append_right _ hx | (simp only [List.mem_cons, List.not_mem_nil, or_false] at hx; repeat' (first | (subst hx; simp [cellsL]; done) | rcases hx with hx | hx)) | simp_all) ?_
      first | refine e_float rfl rfl (fun hs_ => PF.mkg rfl rfl rfl (v_move rfl) hs_) (by repeat (first | exact Imm.le_refl _ | assumption | refine Imm.le_trans ?_ (by assumption))) (by intro x hx; first | exact hx | exact List.mem_cons_of_mem _ hx | exact List.mem_append_right _ hx | (simp only [List.mem_cons, List.not_mem_nil, or_false] at hx; repeat' (first | (subst hx; simp [cellsL]; done) | rcases hx with hx | hx)) | simp_all) ?_ | refine e_float rfl rfl (fun hs_ => PF.mks rfl (by intro c hc; cases hc) rfl rfl (by simp [undef]) hs_) (by repeat (first | exact Imm.le_refl _ | assumption | refine Imm.le_trans ?_ (by assumption))) (by intro x hx; first | exact hx | exact List.mem_cons_of_mem _ hx | exact List.mem_append_right _ hx | (simp only [List.mem_cons, List.not_mem_nil, or_false] at hx; repeat' (first | (subst hx; simp [cellsL]; done) | rcases hx with hx | hx)) | simp_all) ?_
      first | refine e_float rfl rfl (fun hs_ => PF.mkg rfl rfl rfl (v_move rfl) hs_) (by repeat (first | exact Imm.le_refl _ | assumption | refine Imm.le_trans ?_ (by assumption))) (by intro x hx; first | exact hx | exact List.mem_cons_of_mem _ hx | exact List.mem_append_right _ hx | (simp only [List.mem_cons, List.not_mem_nil, or_false] at hx; repeat' (first | (subst hx; simp [cellsL]; done) | rcases hx with hx | hx)) | simp_all) ?_ | refine e_float rfl rfl (fun hs_ => PF.mks rfl (by intro c hc; cases hc) rfl rfl (by simp [undef]) hs_) (by repeat (first | exact Imm.le_refl _ | assumption | refine Imm.le_trans ?_ (by assumption))) (by intro x hx; first | exact hx | exact List.mem_cons_of_mem _ hx | exact List.mem_append_right _ hx | (simp only [List.mem_cons, List.not_mem_nil, or_false] at hx; repeat' (first | (subst hx; simp [cellsL]; done) | rcases hx with hx | hx)) | simp_all) ?_
      first | refine e_float rfl rfl (fun hs_ => PF.mkg rfl rfl rfl (v_index Try.underlying22 sz24 rfl rfl (by omega) (by assumption)) hs_) (by repeat (first | exact Imm.le_refl _ | assumption | refine Imm.le_trans ?_ (by assumption))) (by intro x hx; first | exact hx | exact List.mem_cons_of_mem _ hx | exact List.mem_append_right _ hx | (simp only [List.mem_cons, List.not_mem_nil, or_false] at hx; repeat' (first | (subst hx; simp [cellsL]; done) | rcases hx with hx | hx)) | simp_all) ?_ | refine e_float rfl rfl (fun hs_ => PF.mkg rfl rfl rfl (v_indexI Try.underlying22 sz24 rfl rfl (by first | omega | (simp; done) | (simp; omega)) (by first | omega | (simp; done) | (simp; omega)) (by assumption)) hs_) (by repeat (first | exact Imm.le_refl _ | assumption | refine Imm.le_trans ?_ (by assumption))) (by intro x hx; first | exact hx | exact List.mem_cons_of_mem _ hx | exact List.mem_append_right _ hx | (simp only [List.mem_cons, List.not_mem_nil, or_false] at hx; repeat' (first | (subst hx; simp [cellsL]; done) | rcases hx with hx | hx)) | simp_all) ?_ | refine e_float rfl rfl (fun hs_ => PF.mks rfl (by intro c hc; cases hc) rfl rfl (by simp [undef]) hs_) (by repeat (first | exact Imm.le_refl _ | assumption | refine Imm.le_trans ?_ (by assumption))) (by intro x hx; first | exact hx | exact List.mem_cons_of_mem _ hx | exact List.mem_append_right _ hx | (simp only [List.mem_cons, List.not_mem_nil, or_false] at hx; repeat' (first | (subst hx; simp [cellsL]; done) | rcases hx with hx | hx)) | simp_all) ?_
      first | refine e_float rfl rfl (fun hs_ => PF.mkg rfl rfl rfl (v_loadI0 ty24 ((hat k hlt).mono (by repeat (first | exact Imm.le_refl _ | assumption | refine Imm.le_trans ?_ (by assumption)))) rfl rfl rfl) hs_) (by repeat (first | exact Imm.le_refl _ | assumption | refine Imm.le_trans ?_ (by assumption))) (by intro x hx; first | exact hx | exact List.mem_cons_of_mem _ hx | exact List.mem_append_right _ hx | (simp only [List.mem_cons, List.not_mem_nil, or_false] at hx; repeat' (first | (subst hx; simp [cellsL]; done) | rcases hx with hx | hx)) | simp_all) ?_ | refine e_float rfl rfl (fun hs_ => PF.mkg rfl rfl rfl (v_loadI ty24 ((hat k hlt).mono (by repeat (first | exact Imm.le_refl _ | assumption | refine Imm.le_trans ?_ (by assumption)))) rfl rfl rfl) hs_) (by repeat (first | exact Imm.le_refl _ | assumption | refine Imm.le_trans ?_ (by assumption))) (by intro x hx; first | exact hx | exact List.mem_cons_of_mem _ hx | exact List.mem_append_right _ hx | (simp only [List.mem_cons, List.not_mem_nil, or_false] at hx; repeat' (first | (subst hx; simp [cellsL]; done) | rcases hx with hx | hx)) | simp_all) ?_ | refine e_float rfl rfl (fun hs_ => PF.mks rfl (by intro c hc; cases hc) rfl rfl (by simp [undef]) hs_) (by repeat (first | exact Imm.le_refl _ | assumption | refine Imm.le_trans ?_ (by assumption))) (by intro x hx; first | exact hx | exact List.mem_cons_of_mem _ hx | exact List.mem_append_right _ hx | (simp only [List.mem_cons, List.not_mem_nil, or_false] at hx; repeat' (first | (subst hx; simp [cellsL]; done) | rcases hx with hx | hx)) | simp_all) ?_
      first | refine e_float rfl rfl (fun hs_ => PF.mkg rfl rfl rfl (v_load ty24 rfl (by first | exact Has.here | exact Has.there Has.here | exact Has.there (Has.there Has.here) | exact Has.there (Has.there (Has.there Has.here)) | exact Has.there (Has.there (Has.there (Has.there Has.here))) | exact Has.there (Has.there (Has.there (Has.there (Has.there Has.here)))) | exact Has.there (Has.there (Has.there (Has.there (Has.there (Has.there Has.here)))))) rfl) hs_) (by repeat (first | exact Imm.le_refl _ | assumption | refine Imm.le_trans ?_ (by assumption))) (by intro x hx; first | exact hx | exact List.mem_cons_of_mem _ hx | exact List.mem_append_right _ hx | (simp only [List.mem_cons, List.not_mem_nil, or_false] at hx; repeat' (first | (subst hx; simp [cellsL]; done) | rcases hx with hx | hx)) | simp_all) ?_ | refine e_float rfl rfl (fun hs_ => PF.mks rfl (by intro c hc; cases hc) rfl rfl (by simp [undef]) hs_) (by repeat (first | exact Imm.le_refl _ | assumption | refine Imm.le_trans ?_ (by assumption))) (by intro x hx; first | exact hx | exact List.mem_cons_of_mem _ hx | exact List.mem_append_right _ hx | (simp only [List.mem_cons, List.not_mem_nil, or_false] at hx; repeat' (first | (subst hx; simp [cellsL]; done) | rcases hx with hx | hx)) | simp_all) ?_
      refine e_eff rfl (by intro cs b hc; cases hc) (by intro c hc; cases hc) ?_
      first
        | (refine op_want rfl rfl ?_
           refine op_call pl38 rfl rfl ((TSame_does ((hsub k hlt).mono (by repeat (first | exact Imm.le_refl _ | assumption | refine Imm.le_trans ?_ (by assumption)))) (hrep.mono (by repeat (first | exact Imm.le_refl _ | assumption | refine Imm.le_trans ?_ (by assumption)))) (by omega) (by omega))) Parts.none ?_
           rintro v76 I76 _ hI76 ⟨rfl, rfl⟩
           rw [show decide (ts[k] = .mk h ts) = false from decide_eq_false hne])
        | (refine op_skip rfl rfl (by simp [undef]) rfl ?_)
      refine ops_nil ?_
      refine e_next rfl (side_all (by repeat (first | exact Imm.le_refl _ | assumption | refine Imm.le_trans ?_ (by assumption))) (fun _ => (by intro x hx; first | exact hx | exact List.mem_cons_of_mem _ hx | exact List.mem_append_right _ hx | (simp only [List.mem_cons, List.not_mem_nil, or_false] at hx; repeat' (first | (subst hx; simp [cellsL]; done) | rcases hx with hx | hx)) | simp_all))) ?_
      first | refine e_float rfl rfl (fun hs_ => PF.mk rfl (v_pickt rfl rfl) hs_) (by repeat (first | exact Imm.le_refl _ | assumption | refine Imm.le_trans ?_ (by assumption))) (by intro x hx; first | exact hx | exact List.mem_cons_of_mem _ hx | exact List.mem_append_right _ hx | (simp only [List.mem_cons, List.not_mem_nil, or_false] at hx; repeat' (first | (subst hx; simp [cellsL]; done) | rcases hx with hx | hx)) | simp_all) ?_ | refine e_float rfl rfl (fun hs_ => PF.mk rfl (v_pickf rfl rfl) hs_) (by repeat (first | exact Imm.le_refl _ | assumption | refine Imm.le_trans ?_ (by assumption))) (by intro x hx; first | exact hx | exact List.mem_cons_of_mem _ hx | exact List.mem_append_right _ hx | (simp only [List.mem_cons, List.not_mem_nil, or_false] at hx; repeat' (first | (subst hx; simp [cellsL]; done) | rcases hx with hx | hx)) | simp_all) ?_ | refine e_float rfl rfl (fun hs_ => PF.mk rfl (v_pickb rfl rfl rfl) hs_) (by repeat (first | exact Imm.le_refl _ | assumption | refine Imm.le_trans ?_ (by assumption))) (by intro x hx; first | exact hx | exact List.mem_cons_of_mem _ hx | exact List.mem_append_right _ hx | (simp only [List.mem_cons, List.not_mem_nil, or_false] at hx; repeat' (first | (subst hx; simp [cellsL]; done) | rcases hx with hx | hx)) | simp_all) ?_
      refine e_float rfl rfl (fun hs_ => PF.mk rfl (v_move rfl) hs_) (by repeat (first | exact Imm.le_refl _ | assumption | refine Imm.le_trans ?_ (by assumption))) (by intro x hx; first | exact hx | exact List.mem_cons_of_mem _ hx | exact List.mem_append_right _ hx | (simp only [List.mem_cons, List.not_mem_nil, or_false] at hx; repeat' (first | (subst hx; simp [cellsL]; done) | rcases hx with hx | hx)) | simp_all) ?_
      first | refine e_float rfl rfl (fun hs_ => PF.mkg rfl rfl rfl (v_load ty24 rfl (by first | exact Has.here | exact Has.there Has.here | exact Has.there (Has.there Has.here) | exact Has.there (Has.there (Has.there Has.here)) | exact Has.there (Has.there (Has.there (Has.there Has.here))) | exact Has.there (Has.there (Has.there (Has.there (Has.there Has.here)))) | exact Has.there (Has.there (Has.there (Has.there (Has.there (Has.there Has.here)))))) rfl) hs_) (by repeat (first | exact Imm.le_refl _ | assumption | refine Imm.le_trans ?_ (by assumption))) (by intro x hx; first | exact hx | exact List.mem_cons_of_mem _ hx | exact List.mem_append_right _ hx | (simp only [List.mem_cons, List.not_mem_nil, or_false] at hx; repeat' (first | (subst hx; simp [cellsL]; done) | rcases hx with hx | hx)) | simp_all) ?_ | refine e_float rfl rfl (fun hs_ => PF.mks rfl (by intro c hc; cases hc) rfl rfl (by simp [undef]) hs_) (by repeat (first | exact Imm.le_refl _ | assumption | refine Imm.le_trans ?_ (by assumption))) (by intro x hx; first | exact hx | exact List.mem_cons_of_mem _ hx | exact List.mem_append_right _ hx | (simp only [List.mem_cons, List.not_mem_nil, or_false] at hx; repeat' (first | (subst hx; simp [cellsL]; done) | rcases hx with hx | hx)) | simp_all) ?_
      refine e_eff rfl (by intro cs b hc; cases hc) (by intro c hc; cases hc) ?_
      first
        | (refine op_want rfl rfl ?_
           refine op_call pl43 rfl rfl ((TCheck_does (hrep.mono (by repeat (first | exact Imm.le_refl _ | assumption | refine Imm.le_trans ?_ (by assumption)))) (by omega))) Parts.none ?_
           rintro v80 I80 _ hI80 ⟨rfl, rfl⟩)
        | (refine op_skip rfl rfl (by simp [undef]) rfl ?_)
      refine ops_nil ?_
      refine e_next rfl (side_all (by repeat (first | exact Imm.le_refl _ | assumption | refine Imm.le_trans ?_ (by assumption))) (fun _ => (by intro x hx; first | exact hx | exact List.mem_cons_of_mem _ hx | exact List.mem_append_right _ hx | (simp only [List.mem_cons, List.not_mem_nil, or_false] at hx; repeat' (first | (subst hx; simp [cellsL]; done) | rcases hx with hx | hx)) | simp_all))) ?_
      by_cases hck : chkT (.mk h ts) = 0
      · have hck2 := chk_part hck k hlt
        first | refine e_float rfl rfl (fun hs_ => PF.mkg rfl rfl rfl (v_cmpt rfl rfl rfl (by first | omega | (simp; done) | (simp; omega))) hs_) (by repeat (first | exact Imm.le_refl _ | assumption | refine Imm.le_trans ?_ (by assumption))) (by intro x hx; first | exact hx | exact List.mem_cons_of_mem _ hx | exact List.mem_append_right _ hx | (simp only [List.mem_cons, List.not_mem_nil, or_false] at hx; repeat' (first | (subst hx; simp [cellsL]; done) | rcases hx with hx | hx)) | simp_all) ?_ | refine e_float rfl rfl (fun hs_ => PF.mkg rfl rfl rfl (v_cmpf rfl rfl rfl (by first | omega | (simp; done) | (simp; omega))) hs_) (by repeat (first | exact Imm.le_refl _ | assumption | refine Imm.le_trans ?_ (by assumption))) (by intro x hx; first | exact hx | exact List.mem_cons_of_mem _ hx | exact List.mem_append_right _ hx | (simp only [List.mem_cons, List.not_mem_nil, or_false] at hx; repeat' (first | (subst hx; simp [cellsL]; done) | rcases hx with hx | hx)) | simp_all) ?_ | refine e_float rfl rfl (fun hs_ => PF.mkg rfl rfl rfl (v_cmp rfl rfl rfl) hs_) (by repeat (first | exact Imm.le_refl _ | assumption | refine Imm.le_trans ?_ (by assumption))) (by intro x hx; first | exact hx | exact List.mem_cons_of_mem _ hx | exact List.mem_append_right _ hx | (simp only [List.mem_cons, List.not_mem_nil, or_false] at hx; repeat' (first | (subst hx; simp [cellsL]; done) | rcases hx with hx | hx)) | simp_all) ?_ | refine e_float rfl rfl (fun hs_ => PF.mks rfl (by intro c hc; cases hc) rfl rfl (by simp [undef]) hs_) (by repeat (first | exact Imm.le_refl _ | assumption | refine Imm.le_trans ?_ (by assumption))) (by intro x hx; first | exact hx | exact List.mem_cons_of_mem _ hx | exact List.mem_append_right _ hx | (simp only [List.mem_cons, List.not_mem_nil, or_false] at hx; repeat' (first | (subst hx; simp [cellsL]; done) | rcases hx with hx | hx)) | simp_all) ?_
        first | refine e_float rfl rfl (fun hs_ => PF.mkg rfl rfl rfl (v_move rfl) hs_) (by repeat (first | exact Imm.le_refl _ | assumption | refine Imm.le_trans ?_ (by assumption))) (by intro x hx; first | exact hx | exact List.mem_cons_of_mem _ hx | exact List.mem_append_right _ hx | (simp only [List.mem_cons, List.not_mem_nil, or_false] at hx; repeat' (first | (subst hx; simp [cellsL]; done) | rcases hx with hx | hx)) | simp_all) ?_ | refine e_float rfl rfl (fun hs_ => PF.mks rfl (by intro c hc; cases hc) rfl rfl (by simp [undef]) hs_) (by repeat (first | exact Imm.le_refl _ | assumption | refine Imm.le_trans ?_ (by assumption))) (by intro x hx; first | exact hx | exact List.mem_cons_of_mem _ hx | exact List.mem_append_right _ hx | (simp only [List.mem_cons, List.not_mem_nil, or_false] at hx; repeat' (first | (subst hx; simp [cellsL]; done) | rcases hx with hx | hx)) | simp_all) ?_
        first | refine e_float rfl rfl (fun hs_ => PF.mkg rfl rfl rfl (v_move rfl) hs_) (by repeat (first | exact Imm.le_refl _ | assumption | refine Imm.le_trans ?_ (by assumption))) (by intro x hx; first | exact hx | exact List.mem_cons_of_mem _ hx | exact List.mem_append_right _ hx | (simp only [List.mem_cons, List.not_mem_nil, or_false] at hx; repeat' (first | (subst hx; simp [cellsL]; done) | rcases hx with hx | hx)) | simp_all) ?_ | refine e_float rfl rfl (fun hs_ => PF.mks rfl (by intro c hc; cases hc) rfl rfl (by simp [undef]) hs_) (by repeat (first | exact Imm.le_refl _ | assumption | refine Imm.le_trans ?_ (by assumption))) (by intro x hx; first | exact hx | exact List.mem_cons_of_mem _ hx | exact List.mem_append_right _ hx | (simp only [List.mem_cons, List.not_mem_nil, or_false] at hx; repeat' (first | (subst hx; simp [cellsL]; done) | rcases hx with hx | hx)) | simp_all) ?_
        first | refine e_float rfl rfl (fun hs_ => PF.mkg rfl rfl rfl (v_move rfl) hs_) (by repeat (first | exact Imm.le_refl _ | assumption | refine Imm.le_trans ?_ (by assumption))) (by intro x hx; first | exact hx | exact List.mem_cons_of_mem _ hx | exact List.mem_append_right _ hx | (simp only [List.mem_cons, List.not_mem_nil, or_false] at hx; repeat' (first | (subst hx; simp [cellsL]; done) | rcases hx with hx | hx)) | simp_all) ?_ | refine e_float rfl rfl (fun hs_ => PF.mks rfl (by intro c hc; cases hc) rfl rfl (by simp [undef]) hs_) (by repeat (first | exact Imm.le_refl _ | assumption | refine Imm.le_trans ?_ (by assumption))) (by intro x hx; first | exact hx | exact List.mem_cons_of_mem _ hx | exact List.mem_append_right _ hx | (simp only [List.mem_cons, List.not_mem_nil, or_false] at hx; repeat' (first | (subst hx; simp [cellsL]; done) | rcases hx with hx | hx)) | simp_all) ?_
        first | refine e_float rfl rfl (fun hs_ => PF.mkg rfl rfl rfl (v_index Try.underlying22 sz24 rfl rfl (by omega) (by assumption)) hs_) (by repeat (first | exact Imm.le_refl _ | assumption | refine Imm.le_trans ?_ (by assumption))) (by intro x hx; first | exact hx | exact List.mem_cons_of_mem _ hx | exact List.mem_append_right _ hx | (simp only [List.mem_cons, List.not_mem_nil, or_false] at hx; repeat' (first | (subst hx; simp [cellsL]; done) | rcases hx with hx | hx)) | simp_all) ?_ | refine e_float rfl rfl (fun hs_ => PF.mkg rfl rfl rfl (v_indexI Try.underlying22 sz24 rfl rfl (by first | omega | (simp; done) | (simp; omega)) (by first | omega | (simp; done) | (simp; omega)) (by assumption)) hs_) (by repeat (first | exact Imm.le_refl _ | assumption | refine Imm.le_trans ?_ (by assumption))) (by intro x hx; first | exact hx | exact List.mem_cons_of_mem _ hx | exact List.mem_append_right _ hx | (simp only [List.mem_cons, List.not_mem_nil, or_false] at hx; repeat' (first | (subst hx; simp [cellsL]; done) | rcases hx with hx | hx)) | simp_all) ?_ | refine e_float rfl rfl (fun hs_ => PF.mks rfl (by intro c hc; cases hc) rfl rfl (by simp [undef]) hs_) (by repeat (first | exact Imm.le_refl _ | assumption | refine Imm.le_trans ?_ (by assumption))) (by intro x hx; first | exact hx | exact List.mem_cons_of_mem _ hx | exact List.mem_append_right _ hx | (simp only [List.mem_cons, List.not_mem_nil, or_false] at hx; repeat' (first | (subst hx; simp [cellsL]; done) | rcases hx with hx | hx)) | simp_all) ?_
        first | refine e_float rfl rfl (fun hs_ => PF.mkg rfl rfl rfl (v_loadI0 ty24 ((hat k hlt).mono (by repeat (first | exact Imm.le_refl _ | assumption | refine Imm.le_trans ?_ (by assumption)))) rfl rfl rfl) hs_) (by repeat (first | exact Imm.le_refl _ | assumption | refine Imm.le_trans ?_ (by assumption))) (by intro x hx; first | exact hx | exact List.mem_cons_of_mem _ hx | exact List.mem_append_right _ hx | (simp only [List.mem_cons, List.not_mem_nil, or_false] at hx; repeat' (first | (subst hx; simp [cellsL]; done) | rcases hx with hx | hx)) | simp_all) ?_ | refine e_float rfl rfl (fun hs_ => PF.mkg rfl rfl rfl (v_loadI ty24 ((hat k hlt).mono (by repeat (first | exact Imm.le_refl _ | assumption | refine Imm.le_trans ?_ (by assumption)))) rfl rfl rfl) hs_) (by repeat (first | exact Imm.le_refl _ | assumption | refine Imm.le_trans ?_ (by assumption))) (by intro x hx; first | exact hx | exact List.mem_cons_of_mem _ hx | exact List.mem_append_right _ hx | (simp only [List.mem_cons, List.not_mem_nil, or_false] at hx; repeat' (first | (subst hx; simp [cellsL]; done) | rcases hx with hx | hx)) | simp_all) ?_ | refine e_float rfl rfl (fun hs_ => PF.mks rfl (by intro c hc; cases hc) rfl rfl (by simp [undef]) hs_) (by repeat (first | exact Imm.le_refl _ | assumption | refine Imm.le_trans ?_ (by assumption))) (by intro x hx; first | exact hx | exact List.mem_cons_of_mem _ hx | exact List.mem_append_right _ hx | (simp only [List.mem_cons, List.not_mem_nil, or_false] at hx; repeat' (first | (subst hx; simp [cellsL]; done) | rcases hx with hx | hx)) | simp_all) ?_
        refine e_eff rfl (by intro cs b hc; cases hc) (by intro c hc; cases hc) ?_
        first
          | (refine op_want rfl rfl ?_
             refine op_call pl43 rfl rfl ((TCheck_does ((hsub k hlt).mono (by repeat (first | exact Imm.le_refl _ | assumption | refine Imm.le_trans ?_ (by assumption)))) (by omega))) Parts.none ?_
             rintro v87 I87 _ hI87 ⟨rfl, rfl⟩
             rw [hck2])
          | (refine op_skip rfl rfl (by simp [undef]) rfl ?_)
        refine ops_nil ?_
        refine e_next rfl (side_all (by repeat (first | exact Imm.le_refl _ | assumption | refine Imm.le_trans ?_ (by assumption))) (fun _ => (by intro x hx; first | exact hx | exact List.mem_cons_of_mem _ hx | exact List.mem_append_right _ hx | (simp only [List.mem_cons, List.not_mem_nil, or_false] at hx; repeat' (first | (subst hx; simp [cellsL]; done) | rcases hx with hx | hx)) | simp_all))) ?_
        first | refine e_float rfl rfl (fun hs_ => PF.mkg rfl rfl rfl (v_cmpt rfl rfl rfl (by first | omega | (simp; done) | (simp; omega))) hs_) (by repeat (first | exact Imm.le_refl _ | assumption | refine Imm.le_trans ?_ (by assumption))) (by intro x hx; first | exact hx | exact List.mem_cons_of_mem _ hx | exact List.mem_append_right _ hx | (simp only [List.mem_cons, List.not_mem_nil, or_false] at hx; repeat' (first | (subst hx; simp [cellsL]; done) | rcases hx with hx | hx)) | simp_all) ?_ | refine e_float rfl rfl (fun hs_ => PF.mkg rfl rfl rfl (v_cmpf rfl rfl rfl (by first | omega | (simp; done) | (simp; omega))) hs_) (by repeat (first | exact Imm.le_refl _ | assumption | refine Imm.le_trans ?_ (by assumption))) (by intro x hx; first | exact hx | exact List.mem_cons_of_mem _ hx | exact List.mem_append_right _ hx | (simp only [List.mem_cons, List.not_mem_nil, or_false] at hx; repeat' (first | (subst hx; simp [cellsL]; done) | rcases hx with hx | hx)) | simp_all) ?_ | refine e_float rfl rfl (fun hs_ => PF.mkg rfl rfl rfl (v_cmp rfl rfl rfl) hs_) (by repeat (first | exact Imm.le_refl _ | assumption | refine Imm.le_trans ?_ (by assumption))) (by intro x hx; first | exact hx | exact List.mem_cons_of_mem _ hx | exact List.mem_append_right _ hx | (simp only [List.mem_cons, List.not_mem_nil, or_false] at hx; repeat' (first | (subst hx; simp [cellsL]; done) | rcases hx with hx | hx)) | simp_all) ?_ | refine e_float rfl rfl (fun hs_ => PF.mks rfl (by intro c hc; cases hc) rfl rfl (by simp [undef]) hs_) (by repeat (first | exact Imm.le_refl _ | assumption | refine Imm.le_trans ?_ (by assumption))) (by intro x hx; first | exact hx | exact List.mem_cons_of_mem _ hx | exact List.mem_append_right _ hx | (simp only [List.mem_cons, List.not_mem_nil, or_false] at hx; repeat' (first | (subst hx; simp [cellsL]; done) | rcases hx with hx | hx)) | simp_all) ?_
        first | refine e_float rfl rfl (fun hs_ => PF.mkg rfl rfl rfl (v_pickt rfl rfl) hs_) (by repeat (first | exact Imm.le_refl _ | assumption | refine Imm.le_trans ?_ (by assumption))) (by intro x hx; first | exact hx | exact List.mem_cons_of_mem _ hx | exact List.mem_append_right _ hx | (simp only [List.mem_cons, List.not_mem_nil, or_false] at hx; repeat' (first | (subst hx; simp [cellsL]; done) | rcases hx with hx | hx)) | simp_all) ?_ | refine e_float rfl rfl (fun hs_ => PF.mkg rfl rfl rfl (v_pickf rfl rfl) hs_) (by repeat (first | exact Imm.le_refl _ | assumption | refine Imm.le_trans ?_ (by assumption))) (by intro x hx; first | exact hx | exact List.mem_cons_of_mem _ hx | exact List.mem_append_right _ hx | (simp only [List.mem_cons, List.not_mem_nil, or_false] at hx; repeat' (first | (subst hx; simp [cellsL]; done) | rcases hx with hx | hx)) | simp_all) ?_ | refine e_float rfl rfl (fun hs_ => PF.mkg rfl rfl rfl (v_pickb rfl rfl rfl) hs_) (by repeat (first | exact Imm.le_refl _ | assumption | refine Imm.le_trans ?_ (by assumption))) (by intro x hx; first | exact hx | exact List.mem_cons_of_mem _ hx | exact List.mem_append_right _ hx | (simp only [List.mem_cons, List.not_mem_nil, or_false] at hx; repeat' (first | (subst hx; simp [cellsL]; done) | rcases hx with hx | hx)) | simp_all) ?_ | refine e_float rfl rfl (fun hs_ => PF.mks rfl (by intro c hc; cases hc) rfl rfl (by simp [undef]) hs_) (by repeat (first | exact Imm.le_refl _ | assumption | refine Imm.le_trans ?_ (by assumption))) (by intro x hx; first | exact hx | exact List.mem_cons_of_mem _ hx | exact List.mem_append_right _ hx | (simp only [List.mem_cons, List.not_mem_nil, or_false] at hx; repeat' (first | (subst hx; simp [cellsL]; done) | rcases hx with hx | hx)) | simp_all) ?_
        first | refine e_float rfl rfl (fun hs_ => PF.mk rfl (v_pickt rfl rfl) hs_) (by repeat (first | exact Imm.le_refl _ | assumption | refine Imm.le_trans ?_ (by assumption))) (by intro x hx; first | exact hx | exact List.mem_cons_of_mem _ hx | exact List.mem_append_right _ hx | (simp only [List.mem_cons, List.not_mem_nil, or_false] at hx; repeat' (first | (subst hx; simp [cellsL]; done) | rcases hx with hx | hx)) | simp_all) ?_ | refine e_float rfl rfl (fun hs_ => PF.mk rfl (v_pickf rfl rfl) hs_) (by repeat (first | exact Imm.le_refl _ | assumption | refine Imm.le_trans ?_ (by assumption))) (by intro x hx; first | exact hx | exact List.mem_cons_of_mem _ hx | exact List.mem_append_right _ hx | (simp only [List.mem_cons, List.not_mem_nil, or_false] at hx; repeat' (first | (subst hx; simp [cellsL]; done) | rcases hx with hx | hx)) | simp_all) ?_ | refine e_float rfl rfl (fun hs_ => PF.mk rfl (v_pickb rfl rfl rfl) hs_) (by repeat (first | exact Imm.le_refl _ | assumption | refine Imm.le_trans ?_ (by assumption))) (by intro x hx; first | exact hx | exact List.mem_cons_of_mem _ hx | exact List.mem_append_right _ hx | (simp only [List.mem_cons, List.not_mem_nil, or_false] at hx; repeat' (first | (subst hx; simp [cellsL]; done) | rcases hx with hx | hx)) | simp_all) ?_
        refine e_done ?_
        refine post_next ?_
        refine code_cond_f rfl ?_
        refine code_skip ?_
        refine post_out ?_
        refine post_next ?_
        refine code_region ?_
        refine op_v (v_move rfl) rfl ?_
        first | refine op_v (v_addb rfl rfl rfl (by omega)) rfl ?_ | refine op_v (v_add rfl rfl) rfl ?_
        refine op_v (v_assign rfl) rfl ?_
        refine ops_nil ?_
        refine post_again (ts.length - (k + 1)) [(1, .slice ad ts.length c), (8, .pointer (some ⟨b8, 0, none⟩)), (9, .int .i64 ((k + 1 : Nat) : Int))] (by omega) ⟨k + 1, rfl, hlt, rfl, (by repeat (first | exact Imm.le_refl _ | assumption | refine Imm.le_trans ?_ (by assumption))), rfl⟩ ⟨rfl, rfl, rfl, trivial⟩
      · first | refine e_float rfl rfl (fun hs_ => PF.mkg rfl rfl rfl (v_cmpt rfl rfl rfl (by first | omega | (simp; done) | (simp; omega))) hs_) (by repeat (first | exact Imm.le_refl _ | assumption | refine Imm.le_trans ?_ (by assumption))) (by intro x hx; first | exact hx | exact List.mem_cons_of_mem _ hx | exact List.mem_append_right _ hx | (simp only [List.mem_cons, List.not_mem_nil, or_false] at hx; repeat' (first | (subst hx; simp [cellsL]; done) | rcases hx with hx | hx)) | simp_all) ?_ | refine e_float rfl rfl (fun hs_ => PF.mkg rfl rfl rfl (v_cmpf rfl rfl rfl (by first | omega | (simp; done) | (simp; omega))) hs_) (by repeat (first | exact Imm.le_refl _ | assumption | refine Imm.le_trans ?_ (by assumption))) (by intro x hx; first | exact hx | exact List.mem_cons_of_mem _ hx | exact List.mem_append_right _ hx | (simp only [List.mem_cons, List.not_mem_nil, or_false] at hx; repeat' (first | (subst hx; simp [cellsL]; done) | rcases hx with hx | hx)) | simp_all) ?_ | refine e_float rfl rfl (fun hs_ => PF.mkg rfl rfl rfl (v_cmp rfl rfl rfl) hs_) (by repeat (first | exact Imm.le_refl _ | assumption | refine Imm.le_trans ?_ (by assumption))) (by intro x hx; first | exact hx | exact List.mem_cons_of_mem _ hx | exact List.mem_append_right _ hx | (simp only [List.mem_cons, List.not_mem_nil, or_false] at hx; repeat' (first | (subst hx; simp [cellsL]; done) | rcases hx with hx | hx)) | simp_all) ?_ | refine e_float rfl rfl (fun hs_ => PF.mks rfl (by intro c hc; cases hc) rfl rfl (by simp [undef]) hs_) (by repeat (first | exact Imm.le_refl _ | assumption | refine Imm.le_trans ?_ (by assumption))) (by intro x hx; first | exact hx | exact List.mem_cons_of_mem _ hx | exact List.mem_append_right _ hx | (simp only [List.mem_cons, List.not_mem_nil, or_false] at hx; repeat' (first | (subst hx; simp [cellsL]; done) | rcases hx with hx | hx)) | simp_all) ?_
        first | refine e_float rfl rfl (fun hs_ => PF.mkg rfl rfl rfl (v_move rfl) hs_) (by repeat (first | exact Imm.le_refl _ | assumption | refine Imm.le_trans ?_ (by assumption))) (by intro x hx; first | exact hx | exact List.mem_cons_of_mem _ hx | exact List.mem_append_right _ hx | (simp only [List.mem_cons, List.not_mem_nil, or_false] at hx; repeat' (first | (subst hx; simp [cellsL]; done) | rcases hx with hx | hx)) | simp_all) ?_ | refine e_float rfl rfl (fun hs_ => PF.mks rfl (by intro c hc; cases hc) rfl rfl (by simp [undef]) hs_) (by repeat (first | exact Imm.le_refl _ | assumption | refine Imm.le_trans ?_ (by assumption))) (by intro x hx; first | exact hx | exact List.mem_cons_of_mem _ hx | exact List.mem_append_right _ hx | (simp only [List.mem_cons, List.not_mem_nil, or_false] at hx; repeat' (first | (subst hx; simp [cellsL]; done) | rcases hx with hx | hx)) | simp_all) ?_
        first | refine e_float rfl rfl (fun hs_ => PF.mkg rfl rfl rfl (v_move rfl) hs_) (by repeat (first | exact Imm.le_refl _ | assumption | refine Imm.le_trans ?_ (by assumption))) (by intro x hx; first | exact hx | exact List.mem_cons_of_mem _ hx | exact List.mem_append_right _ hx | (simp only [List.mem_cons, List.not_mem_nil, or_false] at hx; repeat' (first | (subst hx; simp [cellsL]; done) | rcases hx with hx | hx)) | simp_all) ?_ | refine e_float rfl rfl (fun hs_ => PF.mks rfl (by intro c hc; cases hc) rfl rfl (by simp [undef]) hs_) (by repeat (first | exact Imm.le_refl _ | assumption | refine Imm.le_trans ?_ (by assumption))) (by intro x hx; first | exact hx | exact List.mem_cons_of_mem _ hx | exact List.mem_append_right _ hx | (simp only [List.mem_cons, List.not_mem_nil, or_false] at hx; repeat' (first | (subst hx; simp [cellsL]; done) | rcases hx with hx | hx)) | simp_all) ?_
        first | refine e_float rfl rfl (fun hs_ => PF.mkg rfl rfl rfl (v_move rfl) hs_) (by repeat (first | exact Imm.le_refl _ | assumption | refine Imm.le_trans ?_ (by assumption))) (by intro x hx; first | exact hx | exact List.mem_cons_of_mem _ hx | exact List.mem_append_right _ hx | (simp only [List.mem_cons, List.not_mem_nil, or_false] at hx; repeat' (first | (subst hx; simp [cellsL]; done) | rcases hx with hx | hx)) | simp_all) ?_ | refine e_float rfl rfl (fun hs_ => PF.mks rfl (by intro c hc; cases hc) rfl rfl (by simp [undef]) hs_) (by repeat (first | exact Imm.le_refl _ | assumption | refine Imm.le_trans ?_ (by assumption))) (by intro x hx; first | exact hx | exact List.mem_cons_of_mem _ hx | exact List.mem_append_right _ hx | (simp only [List.mem_cons, List.not_mem_nil, or_false] at hx; repeat' (first | (subst hx; simp [cellsL]; done) | rcases hx with hx | hx)) | simp_all) ?_
        first | refine e_float rfl rfl (fun hs_ => PF.mkg rfl rfl rfl (v_index Try.underlying22 sz24 rfl rfl (by omega) (by assumption)) hs_) (by repeat (first | exact Imm.le_refl _ | assumption | refine Imm.le_trans ?_ (by assumption))) (by intro x hx; first | exact hx | exact List.mem_cons_of_mem _ hx | exact List.mem_append_right _ hx | (simp only [List.mem_cons, List.not_mem_nil, or_false] at hx; repeat' (first | (subst hx; simp [cellsL]; done) | rcases hx with hx | hx)) | simp_all) ?_ | refine e_float rfl rfl (fun hs_ => PF.mkg rfl rfl rfl (v_indexI Try.underlying22 sz24 rfl rfl (by first | omega | (simp; done) | (simp; omega)) (by first | omega | (simp; done) | (simp; omega)) (by assumption)) hs_) (by repeat (first | exact Imm.le_refl _ | assumption | refine Imm.le_trans ?_ (by assumption))) (by intro x hx; first | exact hx | exact List.mem_cons_of_mem _ hx | exact List.mem_append_right _ hx | (simp only [List.mem_cons, List.not_mem_nil, or_false] at hx; repeat' (first | (subst hx; simp [cellsL]; done) | rcases hx with hx | hx)) | simp_all) ?_ | refine e_float rfl rfl (fun hs_ => PF.mks rfl (by intro c hc; cases hc) rfl rfl (by simp [undef]) hs_) (by repeat (first | exact Imm.le_refl _ | assumption | refine Imm.le_trans ?_ (by assumption))) (by intro x hx; first | exact hx | exact List.mem_cons_of_mem _ hx | exact List.mem_append_right _ hx | (simp only [List.mem_cons, List.not_mem_nil, or_false] at hx; repeat' (first | (subst hx; simp [cellsL]; done) | rcases hx with hx | hx)) | simp_all) ?_
        first | refine e_float rfl rfl (fun hs_ => PF.mkg rfl rfl rfl (v_loadI0 ty24 ((hat k hlt).mono (by repeat (first | exact Imm.le_refl _ | assumption | refine Imm.le_trans ?_ (by assumption)))) rfl rfl rfl) hs_) (by repeat (first | exact Imm.le_refl _ | assumption | refine Imm.le_trans ?_ (by assumption))) (by intro x hx; first | exact hx | exact List.mem_cons_of_mem _ hx | exact List.mem_append_right _ hx | (simp only [List.mem_cons, List.not_mem_nil, or_false] at hx; repeat' (first | (subst hx; simp [cellsL]; done) | rcases hx with hx | hx)) | simp_all) ?_ | refine e_float rfl rfl (fun hs_ => PF.mkg rfl rfl rfl (v_loadI ty24 ((hat k hlt).mono (by repeat (first | exact Imm.le_refl _ | assumption | refine Imm.le_trans ?_ (by assumption)))) rfl rfl rfl) hs_) (by repeat (first | exact Imm.le_refl _ | assumption | refine Imm.le_trans ?_ (by assumption))) (by intro x hx; first | exact hx | exact List.mem_cons_of_mem _ hx | exact List.mem_append_right _ hx | (simp only [List.mem_cons, List.not_mem_nil, or_false] at hx; repeat' (first | (subst hx; simp [cellsL]; done) | rcases hx with hx | hx)) | simp_all) ?_ | refine e_float rfl rfl (fun hs_ => PF.mks rfl (by intro c hc; cases hc) rfl rfl (by simp [undef]) hs_) (by repeat (first | exact Imm.le_refl _ | assumption | refine Imm.le_trans ?_ (by assumption))) (by intro x hx; first | exact hx | exact List.mem_cons_of_mem _ hx | exact List.mem_append_right _ hx | (simp only [List.mem_cons, List.not_mem_nil, or_false] at hx; repeat' (first | (subst hx; simp [cellsL]; done) | rcases hx with hx | hx)) | simp_all) ?_
        refine e_eff rfl (by intro cs b hc; cases hc) (by intro c hc; cases hc) ?_
        first
          | (refine op_want rfl rfl ?_
             refine op_call pl43 rfl rfl ((TCheck_does ((hsub k hlt).mono (by repeat (first | exact Imm.le_refl _ | assumption | refine Imm.le_trans ?_ (by assumption)))) (by omega))) Parts.none ?_
             rintro v87 I87 _ hI87 ⟨rfl, rfl⟩)
          | (refine op_skip rfl rfl (by simp [undef]) rfl ?_)
        refine ops_nil ?_
        refine e_next rfl (side_all (by repeat (first | exact Imm.le_refl _ | assumption | refine Imm.le_trans ?_ (by assumption))) (fun _ => (by intro x hx; first | exact hx | exact List.mem_cons_of_mem _ hx | exact List.mem_append_right _ hx | (simp only [List.mem_cons, List.not_mem_nil, or_false] at hx; repeat' (first | (subst hx; simp [cellsL]; done) | rcases hx with hx | hx)) | simp_all))) ?_
        first | refine e_float rfl rfl (fun hs_ => PF.mkg rfl rfl rfl (v_cmpt rfl rfl rfl (by first | omega | (simp; done) | (simp; omega))) hs_) (by repeat (first | exact Imm.le_refl _ | assumption | refine Imm.le_trans ?_ (by assumption))) (by intro x hx; first | exact hx | exact List.mem_cons_of_mem _ hx | exact List.mem_append_right _ hx | (simp only [List.mem_cons, List.not_mem_nil, or_false] at hx; repeat' (first | (subst hx; simp [cellsL]; done) | rcases hx with hx | hx)) | simp_all) ?_ | refine e_float rfl rfl (fun hs_ => PF.mkg rfl rfl rfl (v_cmpf rfl rfl rfl (by first | omega | (simp; done) | (simp; omega))) hs_) (by repeat (first | exact Imm.le_refl _ | assumption | refine Imm.le_trans ?_ (by assumption))) (by intro x hx; first | exact hx | exact List.mem_cons_of_mem _ hx | exact List.mem_append_right _ hx | (simp only [List.mem_cons, List.not_mem_nil, or_false] at hx; repeat' (first | (subst hx; simp [cellsL]; done) | rcases hx with hx | hx)) | simp_all) ?_ | refine e_float rfl rfl (fun hs_ => PF.mkg rfl rfl rfl (v_cmp rfl rfl rfl) hs_) (by repeat (first | exact Imm.le_refl _ | assumption | refine Imm.le_trans ?_ (by assumption))) (by intro x hx; first | exact hx | exact List.mem_cons_of_mem _ hx | exact List.mem_append_right _ hx | (simp only [List.mem_cons, List.not_mem_nil, or_false] at hx; repeat' (first | (subst hx; simp [cellsL]; done) | rcases hx with hx | hx)) | simp_all) ?_ | refine e_float rfl rfl (fun hs_ => PF.mks rfl (by intro c hc; cases hc) rfl rfl (by simp [undef]) hs_) (by repeat (first | exact Imm.le_refl _ | assumption | refine Imm.le_trans ?_ (by assumption))) (by intro x hx; first | exact hx | exact List.mem_cons_of_mem _ hx | exact List.mem_append_right _ hx | (simp only [List.mem_cons, List.not_mem_nil, or_false] at hx; repeat' (first | (subst hx; simp [cellsL]; done) | rcases hx with hx | hx)) | simp_all) ?_
        first | refine e_float rfl rfl (fun hs_ => PF.mkg rfl rfl rfl (v_pickt rfl rfl) hs_) (by repeat (first | exact Imm.le_refl _ | assumption | refine Imm.le_trans ?_ (by assumption))) (by intro x hx; first | exact hx | exact List.mem_cons_of_mem _ hx | exact List.mem_append_right _ hx | (simp only [List.mem_cons, List.not_mem_nil, or_false] at hx; repeat' (first | (subst hx; simp [cellsL]; done) | rcases hx with hx | hx)) | simp_all) ?_ | refine e_float rfl rfl (fun hs_ => PF.mkg rfl rfl rfl (v_pickf rfl rfl) hs_) (by repeat (first | exact Imm.le_refl _ | assumption | refine Imm.le_trans ?_ (by assumption))) (by intro x hx; first | exact hx | exact List.mem_cons_of_mem _ hx | exact List.mem_append_right _ hx | (simp only [List.mem_cons, List.not_mem_nil, or_false] at hx; repeat' (first | (subst hx; simp [cellsL]; done) | rcases hx with hx | hx)) | simp_all) ?_ | refine e_float rfl rfl (fun hs_ => PF.mkg rfl rfl rfl (v_pickb rfl rfl rfl) hs_) (by repeat (first | exact Imm.le_refl _ | assumption | refine Imm.le_trans ?_ (by assumption))) (by intro x hx; first | exact hx | exact List.mem_cons_of_mem _ hx | exact List.mem_append_right _ hx | (simp only [List.mem_cons, List.not_mem_nil, or_false] at hx; repeat' (first | (subst hx; simp [cellsL]; done) | rcases hx with hx | hx)) | simp_all) ?_ | refine e_float rfl rfl (fun hs_ => PF.mks rfl (by intro c hc; cases hc) rfl rfl (by simp [undef]) hs_) (by repeat (first | exact Imm.le_refl _ | assumption | refine Imm.le_trans ?_ (by assumption))) (by intro x hx; first | exact hx | exact List.mem_cons_of_mem _ hx | exact List.mem_append_right _ hx | (simp only [List.mem_cons, List.not_mem_nil, or_false] at hx; repeat' (first | (subst hx; simp [cellsL]; done) | rcases hx with hx | hx)) | simp_all) ?_
        first | refine e_float rfl rfl (fun hs_ => PF.mk rfl (v_pickt rfl rfl) hs_) (by repeat (first | exact Imm.le_refl _ | assumption | refine Imm.le_trans ?_ (by assumption))) (by intro x hx; first | exact hx | exact List.mem_cons_of_mem _ hx | exact List.mem_append_right _ hx | (simp only [List.mem_cons, List.not_mem_nil, or_false] at hx; repeat' (first | (subst hx; simp [cellsL]; done) | rcases hx with hx | hx)) | simp_all) ?_ | refine e_float rfl rfl (fun hs_ => PF.mk rfl (v_pickf rfl rfl) hs_) (by repeat (first | exact Imm.le_refl _ | assumption | refine Imm.le_trans ?_ (by assumption))) (by intro x hx; first | exact hx | exact List.mem_cons_of_mem _ hx | exact List.mem_append_right _ hx | (simp only [List.mem_cons, List.not_mem_nil, or_false] at hx; repeat' (first | (subst hx; simp [cellsL]; done) | rcases hx with hx | hx)) | simp_all) ?_ | refine e_float rfl rfl (fun hs_ => PF.mk rfl (v_pickb rfl rfl rfl) hs_) (by repeat (first | exact Imm.le_refl _ | assumption | refine Imm.le_trans ?_ (by assumption))) (by intro x hx; first | exact hx | exact List.mem_cons_of_mem _ hx | exact List.mem_append_right _ hx | (simp only [List.mem_cons, List.not_mem_nil, or_false] at hx; repeat' (first | (subst hx; simp [cellsL]; done) | rcases hx with hx | hx)) | simp_all) ?_
        refine e_done ?_
        refine post_next ?_
        refine code_cond_f rfl ?_
        refine code_skip ?_
        refine post_out ?_
        refine post_next ?_
        refine code_region ?_
        refine op_v (v_move rfl) rfl ?_
        first | refine op_v (v_addb rfl rfl rfl (by omega)) rfl ?_ | refine op_v (v_add rfl rfl) rfl ?_
        refine op_v (v_assign rfl) rfl ?_
        refine ops_nil ?_
        refine post_again (ts.length - (k + 1)) [(1, .slice ad ts.length c), (8, .pointer (some ⟨b8, 0, none⟩)), (9, .int .i64 ((k + 1 : Nat) : Int))] (by omega) ⟨k + 1, rfl, hlt, rfl, (by repeat (first | exact Imm.le_refl _ | assumption | refine Imm.le_trans ?_ (by assumption))), rfl⟩ ⟨rfl, rfl, rfl, trivial⟩
    · refine code_exit ?_
      refine post_exit_then ?_
      refine post_exit_then ?_
      refine post_exit ?_
      refine post_next ?_
      refine code_seq ?_
      refine code_region ?_
      refine op_call pl33 rfl rfl ((awake1_does _)) Parts.none ?_
      rintro v91 I91 _ hI91 ⟨rfl, rfl⟩
      refine op_v (v_assign rfl) rfl ?_
      refine ops_nil ?_
      refine post_next ?_
      refine code_ret ?_
      refine post_ret (rs := [.tmp 4]) rfl (List.Perm.refl _) (.cons (.tmp rfl) .nil) (List.nil_sublist _) ?_
      exact ⟨rfl, rfl⟩
theorem TermParts_does {I : Imm} {h : Int} {s : Value} {ts : List T} (hh : InR h) (hs : RepS I s ts) :
    Does Try.prog 11 [.int .i64 h, s] I [] (fun v I' δ' => v = .bool true ∧ δ' = []) := TermParts_walk hh hs
end Go.Proofs.Ytdcklngleglbbaa
