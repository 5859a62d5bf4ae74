/- Walks: the document's answers on which row is greater. -/
import Derived.Test.YtegceppoioeeaaaRe
import Derived.Test.YtegceppoioeeaaaZ1
set_option linter.unusedVariables false
set_option linter.unusedSimpArgs false
/- short -/
namespace Go.Proofs.Ytegceppoioeeaaa
open Go Lg

/-! ### plain -/
theorem rsL_permR : ∀ (l : List T) {m m' : List T}, m.Perm m' → rsL l m = rsL l m'
  | [], _, _, _ => rfl
  | t :: r, m, m', h => by
    simp only [rsL]
    by_cases hm : t ∈ m
    · rw [if_pos hm, if_pos (h.mem_iff.1 hm), rsL_permR r (h.erase t)]
    · rw [if_neg hm, if_neg (fun q => hm (h.mem_iff.2 q)), rsL_permR r h]
/-- those that are not marked -/
def unU : List T → List Bool → List T
  | t :: r, u :: q => if u = true then unU r q else t :: unU r q
  | _, _ => []
theorem unU_mem : ∀ {b : List T} {us : List Bool} (hl : us.length = b.length) {x : T}, x ∈ unU b us ↔ ∃ (j : Nat) (h : j < b.length), us[j]'(by omega) = false ∧ b[j] = x
  | [], [], _, x => by simp [unU]
  | t :: r, u :: q, hl, x => by
    have hl' : q.length = r.length := by simpa using hl
    have ih := unU_mem (b := r) hl' (x := x)
    have key : (∃ (j : Nat) (h : j < (t :: r).length), (u :: q)[j]'(by rw [hl]; exact h) = false ∧ (t :: r)[j] = x) ↔ (u = false ∧ t = x) ∨ ∃ (j : Nat) (h : j < r.length), q[j]'(by omega) = false ∧ r[j] = x := by
      constructor
      · rintro ⟨j, hj, h1, h2⟩
        cases j with
        | zero => exact .inl ⟨h1, h2⟩
        | succ j => exact .inr ⟨j, by simpa using hj, by simpa using h1, by simpa using h2⟩
      · rintro (⟨h1, h2⟩ | ⟨j, hj, h1, h2⟩)
        · exact ⟨0, by simp, h1, h2⟩
        · exact ⟨j + 1, by simpa using hj, by simpa using h1, by simpa using h2⟩
    rw [key]
    cases u
    · simp only [unU, Bool.false_eq_true, if_false, List.mem_cons, ih, true_and]
      exact or_congr_left eq_comm
    · simp only [unU, if_true, ih, Bool.true_eq_false, false_and, false_or]
theorem unU_set : ∀ {b : List T} {us : List Bool} (hl : us.length = b.length) {j : Nat} (hj : j < b.length), us[j]'(by omega) = false → (unU b us).Perm (b[j] :: unU b (us.set j true))
  | [], _, _, j, hj, _ => by simp at hj
  | t :: r, [], hl, _, _, _ => by simp at hl
  | t :: r, u :: q, hl, j, hj, hu => by
    have hl' : q.length = r.length := by simpa using hl
    cases j with
    | zero =>
      simp only [List.getElem_cons_zero] at hu
      subst hu
      simp [unU]
    | succ j =>
      simp only [List.getElem_cons_succ] at hu
      have ih := unU_set hl' (by simpa using hj) hu
      simp only [List.getElem_cons_succ, List.set_cons_succ]
      cases u
      · simp only [unU, Bool.false_eq_true, if_false]
        exact (ih.cons t).trans (List.Perm.swap _ _ _)
      · simp only [unU, if_true]; exact ih
theorem unU_none : ∀ b : List T, unU b (List.replicate b.length false) = b
  | [] => rfl
  | t :: r => by simp [unU, List.replicate_succ, unU_none r]
theorem rsL_step (a : List T) (U : List T) {i : Nat} (hi : i < a.length) : rsL (a.drop i) U = if a[i] ∈ U then rsL (a.drop (i + 1)) (U.erase a[i]) else a[i] :: rsL (a.drop (i + 1)) U := by
  rw [List.drop_eq_getElem_cons hi]; rfl
theorem RepS.row {I : Imm} {v : Value} {ts : List T} (h : RepS I v ts) : ∃ (A : Option Addr) (c : Nat) (ss : Nat → Option Addr × Nat) (xs : List Value), v = .slice A ts.length c ∧ Cells I A xs ∧ RowT I xs ts ∧ ts.length ≤ 4398046511104 ∧ ∀ i (h : i < ts.length), At I A (i * 2) [.int .i64 ts[i].head, .slice (ss i).1 ts[i].args.length (ss i).2] ∧ RepT I (.agg #[.int .i64 ts[i].head, .slice (ss i).1 ts[i].args.length (ss i).2]) ts[i] := by
  obtain ⟨A, c, ss, L, hc, hb, hat2, hr, hsub0⟩ := h
  have hs := fun i (hi : i < ts.length) => RepT.mk _ _ (hr i hi) (hsub0 i hi)
  obtain ⟨h1, h2⟩ := RowT.of hat2 hs
  exact ⟨A, c, ss, _, rfl, h1, h2, hb, fun i hi => ⟨hat2 i hi, hs i hi⟩⟩
/-! ### walks -/
abbrev bRow (g n : Nat) (us : List Bool) : Ent := .row (.slice (some ⟨g, 0, none⟩) n n) 4 1 n (us.map Value.bool)
theorem without_does {I : Imm} {va vb : Value} {a b : List T} (ha : RepS I va a) (hb : RepS I vb b) (hsa : ∀ t ∈ a, t.size ≤ 1000000000) (hsb : ∀ t ∈ b, t.size ≤ 1000000000) (hla : a.length ≤ 1000000) (hlb : b.length ≤ 1000000) :
    Does Try.prog 104 [va, vb] I [] (fun v I' δ' => RepS I' v (rsL a b) ∧ δ' = []) := by
  obtain ⟨aA, aC, aS, xa, rfl, hca, hra, hba, hea⟩ := ha.row
  obtain ⟨bA, bC, bS, xb, rfl, hcb, hrb, hbb, heb⟩ := hb.row
  have hrl := rsL_len a b
  refine Does.intro Try.func104 rfl Try.ntmps104 rfl fun w0 => ?_
  refine code_seq ?_
  refine code_region ?_
  refine op_v (v_assign rfl) rfl ?_
  refine ops_nil ?_
  refine post_next ?_
  refine code_seq ?_
  refine code_region ?_
  refine op_v (v_move rfl) rfl ?_
  refine op_v (v_len Try.underlying23 rfl) rfl ?_
  refine o_makeSlice (z := .bool false) (size := 1) (bytes := 1) (xs := (List.replicate b.length false).map Value.bool) Try.underlying141 (by kernel_rfl) rfl rfl rfl (by omega) (by omega) (by rw [Nat.mul_one]; exact (madeCells_one _ _).trans (by simp)) (fun g12 => ?_)
  refine op_v (v_assign rfl) rfl ?_
  refine ops_nil ?_
  refine post_next ?_
  refine code_seq ?_
  refine code_region ?_
  refine op_v (v_assign rfl) rfl ?_
  refine ops_nil ?_
  refine post_next ?_
  refine code_seq ?_
  refine code_seq ?_
  refine code_region ?_
  refine op_v (v_assign rfl) rfl ?_
  refine ops_nil ?_
  refine post_next ?_
  refine code_block ?_
  have hg12 : (some (⟨g12, 0, none⟩ : Addr)).isSome = true := rfl
  refine CodeJ.view (View.nilRow 25 2) ?_
  refine code_loop (fun m σ' I' δ' => ∃ (i : Nat) (A : Option Addr) (cr : Nat) (out : List T) (xs : List Value) (us : List Bool), m = a.length - i ∧ i ≤ a.length ∧ σ' = [(0, .slice aA a.length aC), (1, .slice bA b.length bC), (5, .slice (some ⟨g12, 0, none⟩) b.length b.length), (6, .slice A out.length cr), (7, .int .i64 i)] ∧ I.le I' ∧ δ' = [tRow A cr out.length xs, bRow g12 b.length us] ∧ RowT I' xs out ∧ us.length = b.length ∧ out.length ≤ i ∧ rsL a b = out ++ rsL (a.drop i) (unU b us)) a.length [(0, .slice aA a.length aC), (1, .slice bA b.length bC), (5, .slice (some ⟨g12, 0, none⟩) b.length b.length), (6, .slice none 0 0), (7, .int .i64 (0 : Nat))] ⟨0, none, 0, [], [], _, rfl, Nat.zero_le _, rfl, Imm.le_refl _, rfl, RowT.nil _, by simp, by simp, by rw [unU_none]; rfl⟩ ⟨rfl, rfl, rfl, rfl, rfl, trivial⟩ ?_
  rintro m _ I0 _ ⟨i, A, cr, out, xs, us, rfl, hi, rfl, hI0, rfl, hx, hul, hol, hrs⟩
  refine code_seq ?_
  refine code_seq ?_
  refine code_region ?_
  refine op_v (v_move rfl) rfl ?_
  refine op_v (v_move rfl) rfl ?_
  refine op_v (v_len Try.underlying23 rfl) rfl ?_
  first | refine op_v (v_cmptA rfl rfl rfl) rfl ?_ | refine op_v (v_cmpfA rfl rfl rfl) rfl ?_ | refine op_v (v_cmp rfl rfl rfl) rfl ?_
  refine ops_nil ?_
  refine post_next ?_
  refine code_cond rfl (fun hc0 => ?_) (fun hc0 => ?_)
  · have hlt : i < a.length := by simpa using hc0
    have hstep := rsL_step a (unU b us) hlt
    obtain ⟨hat1, hrt1⟩ := hea i hlt
    have hs1 := hat1.isSome
    refine code_skip ?_
    refine post_next ?_
    refine code_seq ?_
    refine code_block ?_
    refine code_seq ?_
    refine code_region ?_
    refine op_v (v_assign rfl) rfl ?_
    refine ops_nil ?_
    refine post_next ?_
    refine code_seq ?_
    refine code_seq ?_
    refine code_region ?_
    refine op_v (v_assign rfl) rfl ?_
    refine ops_nil ?_
    refine post_next ?_
    refine code_block ?_
    refine code_loop (fun m σ' I' δ' => ∃ (k : Nat) (at' : Int), m = b.length - k ∧ k ≤ b.length ∧ σ' = [(0, .slice aA a.length aC), (1, .slice bA b.length bC), (5, .slice (some ⟨g12, 0, none⟩) b.length b.length), (6, .slice A out.length cr), (7, .int .i64 i), (8, .int .i64 at'), (9, .int .i64 k)] ∧ I0.le I' ∧ δ' = [tRow A cr out.length xs, bRow g12 b.length us] ∧ ((at' = -1 ∧ ∀ (j : Nat) (h : j < b.length), j < k → us[j]'(by omega) = false → b[j] ≠ a[i]) ∨ ∃ (j : Nat) (h : j < b.length), at' = j ∧ us[j]'(by omega) = false ∧ b[j] = a[i])) b.length [(0, .slice aA a.length aC), (1, .slice bA b.length bC), (5, .slice (some ⟨g12, 0, none⟩) b.length b.length), (6, .slice A out.length cr), (7, .int .i64 i), (8, .int .i64 (-1)), (9, .int .i64 (0 : Nat))] ⟨0, -1, rfl, Nat.zero_le _, rfl, Imm.le_refl _, rfl, .inl ⟨rfl, fun j _ h => by omega⟩⟩ ⟨rfl, rfl, rfl, rfl, rfl, rfl, rfl, trivial⟩ ?_
    rintro m _ I1 _ ⟨k, at', rfl, hk, rfl, hI1, rfl, hat'⟩
    refine code_seq ?_
    refine code_seq ?_
    refine code_region ?_
    refine op_v (v_move rfl) rfl ?_
    refine op_v (v_move rfl) rfl ?_
    refine op_v (v_len Try.underlying23 rfl) rfl ?_
    by_cases h22 : k < b.length
    · first | refine op_v (v_cmptA rfl rfl rfl) rfl ?_ | refine op_v (v_cmpfA rfl rfl rfl) rfl ?_ | refine op_v (v_cmp rfl rfl rfl) rfl ?_
      refine op_v (v_move rfl) rfl ?_
      first
        | (refine op_want rfl rfl ?_
           refine op_v (v_move rfl) rfl ?_)
        | (refine op_skip rfl rfl (by simp [undef]) rfl ?_)
      by_cases h25 : at' < 0
      · have hno : ∀ (j : Nat) (h : j < b.length), j < k → us[j]'(by omega) = false → b[j] ≠ a[i] := by
          rcases hat' with ⟨_, h⟩ | ⟨j, hj, h, _⟩
          · exact h
          · omega
        have hatm : at' = -1 := by
          rcases hat' with ⟨h, _⟩ | ⟨j, hj, h, _⟩
          · exact h
          · omega
        subst hatm
        obtain ⟨hat2, hrt2⟩ := heb k h22
        have hs2 := hat2.isSome
        have hku : k < us.length := by omega
        first
          | (refine op_want rfl rfl ?_
             first | refine op_v (v_cmptA rfl rfl rfl) rfl ?_ | refine op_v (v_cmpfA rfl rfl rfl) rfl ?_ | refine op_v (v_cmp rfl rfl rfl) rfl ?_)
          | (refine op_skip rfl rfl (by simp [undef]) rfl ?_)
        first | refine op_v (v_pickt rfl rfl) rfl ?_ | refine op_v (v_pickf rfl rfl) rfl ?_ | refine op_v (v_pickb rfl rfl rfl) rfl ?_
        refine ops_nil ?_
        refine post_next ?_
        refine code_cond_t rfl ?_
        refine code_skip ?_
        refine post_next ?_
        refine code_seq ?_
        refine code_block ?_
        refine code_seq ?_
        refine code_draw (.fl 0 (.fl 1 (.fl 2 (.fl 3 (.fl 4 (.fl 5 (.fl 6 (.fl 7 (.fl 8 (.fl 9 (.fl 10 (.fl 11 (.fl 12 (.fl 13 (.ef 14 (.fl 15 .done)))))))))))))))) (fun _ => _) mixed (by kernel_rfl) (by kernel_rfl) (fun _ => (List.Sublist.refl _)) ?_
        refine e_fl rfl rfl (fun hs_ => PF.mk rfl (v_move rfl) hs_) ?_
        refine e_fl rfl rfl (fun hs_ => PF.mk rfl (v_move rfl) hs_) ?_
        first | refine e_fl rfl rfl (fun hs_ => PF.mk rfl (v_indexA Try.underlying141 sz4 rfl rfl) hs_) ?_ | refine e_fl rfl rfl (fun hs_ => PF.mk rfl (v_indexIA Try.underlying141 sz4 rfl rfl) hs_) ?_
        refine e_fl rfl rfl (fun hs_ => PF.mk rfl (v_loadRow ty4 rfl (Has.there Has.here) rfl (ld_at (cs := us.map Value.bool) (o := k * 1) (x := .bool us[k]) (by simp [hku]))) hs_) ?_
        by_cases h33 : us[k] = true
        · rw [h33]
          refine e_fl rfl rfl (fun hs_ => PF.mk rfl (v_not rfl) hs_) ?_
          refine e_fl rfl rfl (fun hs_ => PF.mk rfl (v_move rfl) hs_) ?_
          first | refine e_fl rfl rfl (fun hs_ => PF.mkg rfl rfl rfl (v_move rfl) hs_) ?_ | refine e_fl rfl rfl (fun hs_ => PF.mks rfl (by intro c hc; cases hc) rfl rfl (by simp [undef]) hs_) ?_
          first | refine e_fl rfl rfl (fun hs_ => PF.mkg rfl rfl rfl (v_move rfl) hs_) ?_ | refine e_fl rfl rfl (fun hs_ => PF.mks rfl (by intro c hc; cases hc) rfl rfl (by simp [undef]) hs_) ?_
          first | refine e_fl rfl rfl (fun hs_ => PF.mkg rfl rfl rfl (v_indexA Try.underlying23 sz25 rfl rfl) hs_) ?_ | refine e_fl rfl rfl (fun hs_ => PF.mkg rfl rfl rfl (v_indexIA Try.underlying23 sz25 rfl rfl) hs_) ?_ | refine e_fl rfl rfl (fun hs_ => PF.mks rfl (by intro c hc; cases hc) rfl rfl (by simp [undef]) hs_) ?_
          first | refine e_fl rfl rfl (fun hs_ => PF.mkg rfl rfl rfl (v_loadI0 ty25 (hat1.mono Imm.leA) rfl rfl rfl) hs_) ?_ | refine e_fl rfl rfl (fun hs_ => PF.mkg rfl rfl rfl (v_loadI ty25 (hat1.mono Imm.leA) rfl rfl rfl) hs_) ?_ | refine e_fl rfl rfl (fun hs_ => PF.mks rfl (by intro c hc; cases hc) rfl rfl (by simp [undef]) hs_) ?_
          first | refine e_fl rfl rfl (fun hs_ => PF.mkg rfl rfl rfl (v_move rfl) hs_) ?_ | refine e_fl rfl rfl (fun hs_ => PF.mks rfl (by intro c hc; cases hc) rfl rfl (by simp [undef]) hs_) ?_
          first | refine e_fl rfl rfl (fun hs_ => PF.mkg rfl rfl rfl (v_move rfl) hs_) ?_ | refine e_fl rfl rfl (fun hs_ => PF.mks rfl (by intro c hc; cases hc) rfl rfl (by simp [undef]) hs_) ?_
          first | refine e_fl rfl rfl (fun hs_ => PF.mkg rfl rfl rfl (v_indexA Try.underlying23 sz25 rfl rfl) hs_) ?_ | refine e_fl rfl rfl (fun hs_ => PF.mkg rfl rfl rfl (v_indexIA Try.underlying23 sz25 rfl rfl) hs_) ?_ | refine e_fl rfl rfl (fun hs_ => PF.mks rfl (by intro c hc; cases hc) rfl rfl (by simp [undef]) hs_) ?_
          first | refine e_fl rfl rfl (fun hs_ => PF.mkg rfl rfl rfl (v_loadI0 ty25 (hat2.mono Imm.leA) rfl rfl rfl) hs_) ?_ | refine e_fl rfl rfl (fun hs_ => PF.mkg rfl rfl rfl (v_loadI ty25 (hat2.mono Imm.leA) rfl rfl rfl) hs_) ?_ | refine e_fl rfl rfl (fun hs_ => PF.mks rfl (by intro c hc; cases hc) rfl rfl (by simp [undef]) hs_) ?_
          refine e_eff rfl (by intro cs b hc; cases hc) (by intro c hc; cases hc) ?_
          first
            | (refine op_want rfl rfl ?_
               refine op_call pl60 rfl rfl ((Same_does _ _ _ _ _ (hrt1.mono Imm.leA) (hrt2.mono Imm.leA) (hsa _ (List.getElem_mem _)) (hsb _ (List.getElem_mem _)))) Parts.none ?_
               rintro _ I43 _ hI43 ⟨rfl, rfl⟩)
            | (refine op_skip rfl rfl (by simp [undef]) rfl ?_)
          refine ops_nil ?_
          refine e_next rfl side_allA ?_
          first | refine e_fl rfl rfl (fun hs_ => PF.mk rfl (v_pickt rfl rfl) hs_) ?_ | refine e_fl rfl rfl (fun hs_ => PF.mk rfl (v_pickf rfl rfl) hs_) ?_ | refine e_fl rfl rfl (fun hs_ => PF.mk rfl (v_pickb rfl rfl rfl) hs_) ?_
          refine e_done ?_
          refine post_next ?_
          refine code_cond_f rfl ?_
          refine code_skip ?_
          refine post_out ?_
          refine post_next ?_
          refine code_region ?_
          refine op_v (v_move rfl) rfl ?_
          first | refine op_v (v_addb rfl rfl rfl (by omega)) rfl ?_ | refine op_v (v_add rfl rfl) rfl ?_
          refine op_v (v_assign rfl) rfl ?_
          refine ops_nil ?_
          refine post_again (b.length - (k + 1)) [(0, .slice aA a.length aC), (1, .slice bA b.length bC), (5, .slice (some ⟨g12, 0, none⟩) b.length b.length), (6, .slice A out.length cr), (7, .int .i64 i), (8, .int .i64 (-1)), (9, .int .i64 (k + 1 : Nat))] (by omega) ⟨k + 1, -1, rfl, h22, rfl, Imm.leA, rfl, .inl ⟨rfl, fun j hj hjk hu => ?_⟩⟩ ⟨rfl, rfl, rfl, rfl, rfl, rfl, rfl, trivial⟩
          rcases Nat.lt_or_ge j k with hq | hq
          · exact hno j hj hq hu
          have hq2 : j = k := by omega
          subst hq2
          rw [h33] at hu; cases hu
        · have h33' : us[k] = false := by simpa using h33
          rw [h33']
          refine e_fl rfl rfl (fun hs_ => PF.mk rfl (v_not rfl) hs_) ?_
          refine e_fl rfl rfl (fun hs_ => PF.mk rfl (v_move rfl) hs_) ?_
          first | refine e_fl rfl rfl (fun hs_ => PF.mkg rfl rfl rfl (v_move rfl) hs_) ?_ | refine e_fl rfl rfl (fun hs_ => PF.mks rfl (by intro c hc; cases hc) rfl rfl (by simp [undef]) hs_) ?_
          first | refine e_fl rfl rfl (fun hs_ => PF.mkg rfl rfl rfl (v_move rfl) hs_) ?_ | refine e_fl rfl rfl (fun hs_ => PF.mks rfl (by intro c hc; cases hc) rfl rfl (by simp [undef]) hs_) ?_
          first | refine e_fl rfl rfl (fun hs_ => PF.mkg rfl rfl rfl (v_indexA Try.underlying23 sz25 rfl rfl) hs_) ?_ | refine e_fl rfl rfl (fun hs_ => PF.mkg rfl rfl rfl (v_indexIA Try.underlying23 sz25 rfl rfl) hs_) ?_ | refine e_fl rfl rfl (fun hs_ => PF.mks rfl (by intro c hc; cases hc) rfl rfl (by simp [undef]) hs_) ?_
          first | refine e_fl rfl rfl (fun hs_ => PF.mkg rfl rfl rfl (v_loadI0 ty25 (hat1.mono Imm.leA) rfl rfl rfl) hs_) ?_ | refine e_fl rfl rfl (fun hs_ => PF.mkg rfl rfl rfl (v_loadI ty25 (hat1.mono Imm.leA) rfl rfl rfl) hs_) ?_ | refine e_fl rfl rfl (fun hs_ => PF.mks rfl (by intro c hc; cases hc) rfl rfl (by simp [undef]) hs_) ?_
          first | refine e_fl rfl rfl (fun hs_ => PF.mkg rfl rfl rfl (v_move rfl) hs_) ?_ | refine e_fl rfl rfl (fun hs_ => PF.mks rfl (by intro c hc; cases hc) rfl rfl (by simp [undef]) hs_) ?_
          first | refine e_fl rfl rfl (fun hs_ => PF.mkg rfl rfl rfl (v_move rfl) hs_) ?_ | refine e_fl rfl rfl (fun hs_ => PF.mks rfl (by intro c hc; cases hc) rfl rfl (by simp [undef]) hs_) ?_
          first | refine e_fl rfl rfl (fun hs_ => PF.mkg rfl rfl rfl (v_indexA Try.underlying23 sz25 rfl rfl) hs_) ?_ | refine e_fl rfl rfl (fun hs_ => PF.mkg rfl rfl rfl (v_indexIA Try.underlying23 sz25 rfl rfl) hs_) ?_ | refine e_fl rfl rfl (fun hs_ => PF.mks rfl (by intro c hc; cases hc) rfl rfl (by simp [undef]) hs_) ?_
          first | refine e_fl rfl rfl (fun hs_ => PF.mkg rfl rfl rfl (v_loadI0 ty25 (hat2.mono Imm.leA) rfl rfl rfl) hs_) ?_ | refine e_fl rfl rfl (fun hs_ => PF.mkg rfl rfl rfl (v_loadI ty25 (hat2.mono Imm.leA) rfl rfl rfl) hs_) ?_ | refine e_fl rfl rfl (fun hs_ => PF.mks rfl (by intro c hc; cases hc) rfl rfl (by simp [undef]) hs_) ?_
          refine e_eff rfl (by intro cs b hc; cases hc) (by intro c hc; cases hc) ?_
          first
            | (refine op_want rfl rfl ?_
               refine op_call pl60 rfl rfl ((Same_does _ _ _ _ _ (hrt1.mono Imm.leA) (hrt2.mono Imm.leA) (hsa _ (List.getElem_mem _)) (hsb _ (List.getElem_mem _)))) Parts.none ?_
               rintro _ I43 _ hI43 ⟨rfl, rfl⟩)
            | (refine op_skip rfl rfl (by simp [undef]) rfl ?_)
          refine ops_nil ?_
          refine e_next rfl side_allA ?_
          by_cases h44 : a[i] = b[k]
          · rw [show decide (a[i] = b[k]) = true by simpa using h44]
            first | refine e_fl rfl rfl (fun hs_ => PF.mk rfl (v_pickt rfl rfl) hs_) ?_ | refine e_fl rfl rfl (fun hs_ => PF.mk rfl (v_pickf rfl rfl) hs_) ?_ | refine e_fl rfl rfl (fun hs_ => PF.mk rfl (v_pickb rfl rfl rfl) hs_) ?_
            refine e_done ?_
            refine post_next ?_
            refine code_cond_t rfl ?_
            refine code_region ?_
            refine op_v (v_move rfl) rfl ?_
            refine op_v (v_assign rfl) rfl ?_
            refine ops_nil ?_
            refine post_out ?_
            refine post_next ?_
            refine code_region ?_
            refine op_v (v_move rfl) rfl ?_
            first | refine op_v (v_addb rfl rfl rfl (by omega)) rfl ?_ | refine op_v (v_add rfl rfl) rfl ?_
            refine op_v (v_assign rfl) rfl ?_
            refine ops_nil ?_
            refine post_again (b.length - (k + 1)) [(0, .slice aA a.length aC), (1, .slice bA b.length bC), (5, .slice (some ⟨g12, 0, none⟩) b.length b.length), (6, .slice A out.length cr), (7, .int .i64 i), (8, .int .i64 k), (9, .int .i64 (k + 1 : Nat))] (by omega) ⟨k + 1, k, rfl, h22, rfl, Imm.leA, rfl, .inr ⟨k, h22, rfl, h33', h44.symm⟩⟩ ⟨rfl, rfl, rfl, rfl, rfl, rfl, rfl, trivial⟩
          · rw [show decide (a[i] = b[k]) = false by simpa using h44]
            first | refine e_fl rfl rfl (fun hs_ => PF.mk rfl (v_pickt rfl rfl) hs_) ?_ | refine e_fl rfl rfl (fun hs_ => PF.mk rfl (v_pickf rfl rfl) hs_) ?_ | refine e_fl rfl rfl (fun hs_ => PF.mk rfl (v_pickb rfl rfl rfl) hs_) ?_
            refine e_done ?_
            refine post_next ?_
            refine code_cond_f rfl ?_
            refine code_skip ?_
            refine post_out ?_
            refine post_next ?_
            refine code_region ?_
            refine op_v (v_move rfl) rfl ?_
            first | refine op_v (v_addb rfl rfl rfl (by omega)) rfl ?_ | refine op_v (v_add rfl rfl) rfl ?_
            refine op_v (v_assign rfl) rfl ?_
            refine ops_nil ?_
            refine post_again (b.length - (k + 1)) [(0, .slice aA a.length aC), (1, .slice bA b.length bC), (5, .slice (some ⟨g12, 0, none⟩) b.length b.length), (6, .slice A out.length cr), (7, .int .i64 i), (8, .int .i64 (-1)), (9, .int .i64 (k + 1 : Nat))] (by omega) ⟨k + 1, -1, rfl, h22, rfl, Imm.leA, rfl, .inl ⟨rfl, fun j hj hjk hu => ?_⟩⟩ ⟨rfl, rfl, rfl, rfl, rfl, rfl, rfl, trivial⟩
            rcases Nat.lt_or_ge j k with hq | hq
            · exact hno j hj hq hu
            have hq2 : j = k := by omega
            subst hq2
            exact fun e => h44 e.symm
      · first
          | (refine op_want rfl rfl ?_
             first | refine op_v (v_cmptA rfl rfl rfl) rfl ?_ | refine op_v (v_cmpfA rfl rfl rfl) rfl ?_ | refine op_v (v_cmp rfl rfl rfl) rfl ?_)
          | (refine op_skip rfl rfl (by simp [undef]) rfl ?_)
        first | refine op_v (v_pickt rfl rfl) rfl ?_ | refine op_v (v_pickf rfl rfl) rfl ?_ | refine op_v (v_pickb rfl rfl rfl) rfl ?_
        refine ops_nil ?_
        refine post_next ?_
        refine code_cond_f rfl ?_
        refine code_exit ?_
        refine post_exit_then ?_
        refine post_exit_then ?_
        refine post_exit ?_
        refine post_next ?_
        refine code_seq ?_
        refine code_region ?_
        refine op_v (v_move rfl) rfl ?_
        by_cases h47 : at' < 0
        · have hno2 : a[i] ∉ unU b us := by
            rcases hat' with ⟨_, h⟩ | ⟨j, hj, h, _⟩
            · intro hm
              obtain ⟨j, hj, h1, h2⟩ := (unU_mem hul).1 hm
              exact h j hj (by omega) h1 h2
            · omega
          rw [if_neg hno2] at hstep
          first | refine op_v (v_cmptA rfl rfl rfl) rfl ?_ | refine op_v (v_cmpfA rfl rfl rfl) rfl ?_ | refine op_v (v_cmp rfl rfl rfl) rfl ?_
          refine ops_nil ?_
          refine post_next ?_
          refine code_cond_t rfl ?_
          refine code_region ?_
          refine op_v (v_move rfl) rfl ?_
          refine op_v (v_move rfl) rfl ?_
          refine op_v (v_move rfl) rfl ?_
          first | refine op_v (v_indexA Try.underlying23 sz25 rfl rfl) rfl ?_ | refine op_v (v_indexIA Try.underlying23 sz25 rfl rfl) rfl ?_
          first | refine op_v (v_loadI0 ty25 (hat1.mono Imm.leA) rfl rfl rfl) rfl ?_ | refine op_v (v_loadI ty25 (hat1.mono Imm.leA) rfl rfl rfl) rfl ?_
          refine o_buildSlice (xs := [(Go.Operand.tmp 52)]) Try.underlying23 bs25 rfl rfl rfl rfl rfl (fun b53 => ?_)
          refine o_append Try.underlying23 bs25 rfl rfl rfl (fun v' => by repeat (first | exact Swap.here | apply Swap.there)) (Src.ofRow (by repeat (first | exact Has.here | apply Has.there)) rfl) (by first | rfl | omega | simp) (by simp [cat, cellsL, Value.oneCell']) (by omega) (by omega) (fun a54 c54 => ?_)
          refine op_v (v_assign rfl) rfl ?_
          refine ops_nil ?_
          refine post_out ?_
          refine post_next ?_
          refine code_region ?_
          refine op_v (v_move rfl) rfl ?_
          first | refine op_v (v_addb rfl rfl rfl (by omega)) rfl ?_ | refine op_v (v_add rfl rfl) rfl ?_
          refine op_v (v_assign rfl) rfl ?_
          refine ops_nil ?_
          refine PostJ.view (View.drop Del.here) ?_
          refine post_again (a.length - (i + 1)) [(0, .slice aA a.length aC), (1, .slice bA b.length bC), (5, .slice (some ⟨g12, 0, none⟩) b.length b.length), (6, .slice a54 (out.length + 1) c54), (7, .int .i64 (i + 1 : Nat))] (by omega) ⟨i + 1, a54, c54, out ++ [a[i]], xs ++ [.int .i64 a[i].head, .slice (aS i).1 a[i].args.length (aS i).2], us, rfl, hlt, by simp, Imm.leA, by simp [cat, cellsL], (hx.mono Imm.leA).app (RowT.one (hrt1.mono Imm.leA)), hul, by simp; omega, by rw [hrs, hstep]; simp⟩ ⟨rfl, rfl, rfl, rfl, rfl, trivial⟩
        · obtain ⟨j, hj, hatj, huj, hbj⟩ : ∃ (j : Nat) (h : j < b.length), at' = j ∧ us[j]'(by omega) = false ∧ b[j] = a[i] := by
            rcases hat' with ⟨h, _⟩ | h
            · omega
            · exact h
          subst hatj
          have hju : j < us.length := by omega
          have hmem : a[i] ∈ unU b us := (unU_mem hul).2 ⟨j, hj, huj, hbj⟩
          rw [if_pos hmem] at hstep
          have hper := unU_set hul hj huj
          rw [hbj] at hper
          have hper2 : ((unU b us).erase a[i]).Perm (unU b (us.set j true)) := by
            have h3 := hper.erase a[i]
            rwa [List.erase_cons_head] at h3
          rw [rsL_permR _ hper2] at hstep
          first | refine op_v (v_cmptA rfl rfl rfl) rfl ?_ | refine op_v (v_cmpfA rfl rfl rfl) rfl ?_ | refine op_v (v_cmp rfl rfl rfl) rfl ?_
          refine ops_nil ?_
          refine post_next ?_
          refine code_cond_f rfl ?_
          refine code_region ?_
          refine op_v (v_move rfl) rfl ?_
          refine op_v (v_move rfl) rfl ?_
          refine op_v (v_index Try.underlying141 sz4 rfl rfl hj rfl) rfl ?_
          refine o_storeRow (xs' := (us.set j true).map Value.bool) ty4 rfl rfl rfl rfl rfl rfl (by simp [cellsL, hul]) (Swap.there Swap.here) (by rw [List.map_set, Nat.mul_one]; exact stL_one (x := .bool us[j]) (by rw [List.getElem?_map, List.getElem?_eq_getElem hju]; rfl)) ?_
          refine ops_nil ?_
          refine post_out ?_
          refine post_next ?_
          refine code_region ?_
          refine op_v (v_move rfl) rfl ?_
          first | refine op_v (v_addb rfl rfl rfl (by omega)) rfl ?_ | refine op_v (v_add rfl rfl) rfl ?_
          refine op_v (v_assign rfl) rfl ?_
          refine ops_nil ?_
          refine post_again (a.length - (i + 1)) [(0, .slice aA a.length aC), (1, .slice bA b.length bC), (5, .slice (some ⟨g12, 0, none⟩) b.length b.length), (6, .slice A out.length cr), (7, .int .i64 (i + 1 : Nat))] (by omega) ⟨i + 1, A, cr, out, xs, us.set j true, rfl, hlt, rfl, Imm.leA, rfl, hx.mono Imm.leA, by simp [hul], by omega, by rw [hrs, hstep]⟩ ⟨rfl, rfl, rfl, rfl, rfl, trivial⟩
    · first | refine op_v (v_cmptA rfl rfl rfl) rfl ?_ | refine op_v (v_cmpfA rfl rfl rfl) rfl ?_ | refine op_v (v_cmp rfl rfl rfl) rfl ?_
      refine op_v (v_move rfl) rfl ?_
      first
        | (refine op_want rfl rfl ?_
           refine op_v (v_move rfl) rfl ?_)
        | (refine op_skip rfl rfl (by simp [undef]) rfl ?_)
      first
        | (refine op_want rfl rfl ?_
           first | refine op_v (v_cmptA rfl rfl rfl) rfl ?_ | refine op_v (v_cmpfA rfl rfl rfl) rfl ?_ | refine op_v (v_cmp rfl rfl rfl) rfl ?_)
        | (refine op_skip rfl rfl (by simp [undef]) rfl ?_)
      first | refine op_v (v_pickt rfl rfl) rfl ?_ | refine op_v (v_pickf rfl rfl) rfl ?_ | refine op_v (v_pickb rfl rfl rfl) rfl ?_
      refine ops_nil ?_
      refine post_next ?_
      refine code_cond_f rfl ?_
      refine code_exit ?_
      refine post_exit_then ?_
      refine post_exit_then ?_
      refine post_exit ?_
      refine post_next ?_
      refine code_seq ?_
      refine code_region ?_
      refine op_v (v_move rfl) rfl ?_
      by_cases h47 : at' < 0
      · have hno2 : a[i] ∉ unU b us := by
          rcases hat' with ⟨_, h⟩ | ⟨j, hj, h, _⟩
          · intro hm
            obtain ⟨j, hj, h1, h2⟩ := (unU_mem hul).1 hm
            exact h j hj (by omega) h1 h2
          · omega
        rw [if_neg hno2] at hstep
        first | refine op_v (v_cmptA rfl rfl rfl) rfl ?_ | refine op_v (v_cmpfA rfl rfl rfl) rfl ?_ | refine op_v (v_cmp rfl rfl rfl) rfl ?_
        refine ops_nil ?_
        refine post_next ?_
        refine code_cond_t rfl ?_
        refine code_region ?_
        refine op_v (v_move rfl) rfl ?_
        refine op_v (v_move rfl) rfl ?_
        refine op_v (v_move rfl) rfl ?_
        first | refine op_v (v_indexA Try.underlying23 sz25 rfl rfl) rfl ?_ | refine op_v (v_indexIA Try.underlying23 sz25 rfl rfl) rfl ?_
        first | refine op_v (v_loadI0 ty25 (hat1.mono Imm.leA) rfl rfl rfl) rfl ?_ | refine op_v (v_loadI ty25 (hat1.mono Imm.leA) rfl rfl rfl) rfl ?_
        refine o_buildSlice (xs := [(Go.Operand.tmp 52)]) Try.underlying23 bs25 rfl rfl rfl rfl rfl (fun b53 => ?_)
        refine o_append Try.underlying23 bs25 rfl rfl rfl (fun v' => by repeat (first | exact Swap.here | apply Swap.there)) (Src.ofRow (by repeat (first | exact Has.here | apply Has.there)) rfl) (by first | rfl | omega | simp) (by simp [cat, cellsL, Value.oneCell']) (by omega) (by omega) (fun a54 c54 => ?_)
        refine op_v (v_assign rfl) rfl ?_
        refine ops_nil ?_
        refine post_out ?_
        refine post_next ?_
        refine code_region ?_
        refine op_v (v_move rfl) rfl ?_
        first | refine op_v (v_addb rfl rfl rfl (by omega)) rfl ?_ | refine op_v (v_add rfl rfl) rfl ?_
        refine op_v (v_assign rfl) rfl ?_
        refine ops_nil ?_
        refine PostJ.view (View.drop Del.here) ?_
        refine post_again (a.length - (i + 1)) [(0, .slice aA a.length aC), (1, .slice bA b.length bC), (5, .slice (some ⟨g12, 0, none⟩) b.length b.length), (6, .slice a54 (out.length + 1) c54), (7, .int .i64 (i + 1 : Nat))] (by omega) ⟨i + 1, a54, c54, out ++ [a[i]], xs ++ [.int .i64 a[i].head, .slice (aS i).1 a[i].args.length (aS i).2], us, rfl, hlt, by simp, Imm.leA, by simp [cat, cellsL], (hx.mono Imm.leA).app (RowT.one (hrt1.mono Imm.leA)), hul, by simp; omega, by rw [hrs, hstep]; simp⟩ ⟨rfl, rfl, rfl, rfl, rfl, trivial⟩
      · obtain ⟨j, hj, hatj, huj, hbj⟩ : ∃ (j : Nat) (h : j < b.length), at' = j ∧ us[j]'(by omega) = false ∧ b[j] = a[i] := by
          rcases hat' with ⟨h, _⟩ | h
          · omega
          · exact h
        subst hatj
        have hju : j < us.length := by omega
        have hmem : a[i] ∈ unU b us := (unU_mem hul).2 ⟨j, hj, huj, hbj⟩
        rw [if_pos hmem] at hstep
        have hper := unU_set hul hj huj
        rw [hbj] at hper
        have hper2 : ((unU b us).erase a[i]).Perm (unU b (us.set j true)) := by
          have h3 := hper.erase a[i]
          rwa [List.erase_cons_head] at h3
        rw [rsL_permR _ hper2] at hstep
        first | refine op_v (v_cmptA rfl rfl rfl) rfl ?_ | refine op_v (v_cmpfA rfl rfl rfl) rfl ?_ | refine op_v (v_cmp rfl rfl rfl) rfl ?_
        refine ops_nil ?_
        refine post_next ?_
        refine code_cond_f rfl ?_
        refine code_region ?_
        refine op_v (v_move rfl) rfl ?_
        refine op_v (v_move rfl) rfl ?_
        refine op_v (v_index Try.underlying141 sz4 rfl rfl hj rfl) rfl ?_
        refine o_storeRow (xs' := (us.set j true).map Value.bool) ty4 rfl rfl rfl rfl rfl rfl (by simp [cellsL, hul]) (Swap.there Swap.here) (by rw [List.map_set, Nat.mul_one]; exact stL_one (x := .bool us[j]) (by rw [List.getElem?_map, List.getElem?_eq_getElem hju]; rfl)) ?_
        refine ops_nil ?_
        refine post_out ?_
        refine post_next ?_
        refine code_region ?_
        refine op_v (v_move rfl) rfl ?_
        first | refine op_v (v_addb rfl rfl rfl (by omega)) rfl ?_ | refine op_v (v_add rfl rfl) rfl ?_
        refine op_v (v_assign rfl) rfl ?_
        refine ops_nil ?_
        refine post_again (a.length - (i + 1)) [(0, .slice aA a.length aC), (1, .slice bA b.length bC), (5, .slice (some ⟨g12, 0, none⟩) b.length b.length), (6, .slice A out.length cr), (7, .int .i64 (i + 1 : Nat))] (by omega) ⟨i + 1, A, cr, out, xs, us.set j true, rfl, hlt, rfl, Imm.leA, rfl, hx.mono Imm.leA, by simp [hul], by omega, by rw [hrs, hstep]⟩ ⟨rfl, rfl, rfl, rfl, rfl, trivial⟩
  · have hge : i = a.length := by simp at hc0; omega
    refine code_exit ?_
    refine post_exit_then ?_
    refine post_exit_then ?_
    refine post_exit ?_
    refine post_next ?_
    refine code_seq ?_
    refine code_region ?_
    refine OpsJ.freezeRow Del.here ?_
    rintro I58 a58 c58 hI58 hq hc58 hl58 hcells58
    cases hq
    subst hge
    rw [List.drop_length, rsL, List.append_nil] at hrs
    rw [← hrs] at hx
    have hlo : out.length = (rsL a b).length := by rw [hrs]
    refine op_v (v_move rfl) rfl ?_
    refine op_v (v_assign rfl) rfl ?_
    refine ops_nil ?_
    refine post_next ?_
    refine code_ret ?_
    refine post_ret (rs := [.tmp 4]) rfl (List.Perm.refl _) (.cons (.tmp rfl) .nil) (List.nil_sublist _) ?_
    exact ⟨RowT.repS hlo hcells58 (hx.mono Imm.leA) hc58 (by omega), rfl⟩
end Go.Proofs.Ytegceppoioeeaaa
