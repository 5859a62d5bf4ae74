/- Walks: the document's answers on which row is greater; the statement. -/
import Derived.Test.YtegceppoioeeaaaRf
set_option linter.unusedVariables false
set_option linter.unusedSimpArgs false
set_option linter.unnecessarySimpa false
/- short -/
namespace Go.Proofs.Ytegceppoioeeaaa
open Go Lg

theorem any_take_succ' {α : Type} (p : α → Bool) (l : List α) {k : Nat} (h : k < l.length) : (l.take (k + 1)).any p = ((l.take k).any p || p l[k]) := by
  rw [List.take_succ_eq_append_getElem h, List.any_append]; simp
theorem Rover_does {I : Imm} {vg va vb : Value} {gs : List Sy} {a b : List T} (hg : RepG I vg gs) (ha : RepS I va a) (hb : RepS I vb b) (hoa : ∀ t ∈ a, OkG gs t) (hob : ∀ t ∈ b, OkG gs t) (hla : a.length ≤ 1000000) (hlb : b.length ≤ 1000000) :
    Does Try.prog 105 [vg, va, vb] I [] (fun v _ δ' => v = .bool (overL gs a b) ∧ δ' = []) := by
  obtain ⟨ga, gc, rfl⟩ := hg.shape
  obtain ⟨aA, aC, aS, xa, rfl, hca, hra, hba, hea⟩ := ha.row
  obtain ⟨bA, bC, bS, xb, rfl, hcb, hrb, hbb, heb⟩ := hb.row
  refine Does.intro Try.func105 rfl Try.ntmps105 rfl fun w0 => ?_
  refine code_seq ?_
  refine code_region ?_
  refine op_v (v_assign rfl) rfl ?_
  refine ops_nil ?_
  refine post_next ?_
  refine code_seq ?_
  refine code_seq ?_
  refine code_region ?_
  refine op_v (v_assign rfl) rfl ?_
  refine ops_nil ?_
  refine post_next ?_
  refine code_block ?_
  refine code_loop (fun m σ' I' δ' => ∃ i : Nat, m = b.length - i ∧ i ≤ b.length ∧ σ' = [(0, .slice ga gs.length gc), (1, .slice aA a.length aC), (2, .slice bA b.length bC), (7, .int .i64 i)] ∧ I.le I' ∧ δ' = [] ∧ ∀ (j : Nat) (h : j < b.length), j < i → a.any (fun t => decide (stT gs t b[j] = 1)) = true) b.length [(0, .slice ga gs.length gc), (1, .slice aA a.length aC), (2, .slice bA b.length bC), (7, .int .i64 (0 : Nat))] ⟨0, rfl, Nat.zero_le _, rfl, Imm.le_refl _, rfl, fun j _ h => by omega⟩ ⟨rfl, rfl, rfl, rfl, trivial⟩ ?_
  rintro m _ I0 _ ⟨i, rfl, hi, rfl, hI0, rfl, hp⟩
  refine code_seq ?_
  refine code_seq ?_
  refine code_region ?_
  refine op_v (v_move rfl) rfl ?_
  refine op_v (v_move rfl) rfl ?_
  refine op_v (v_len Try.underlying23 rfl) rfl ?_
  first | refine op_v (v_cmptA rfl rfl rfl) rfl ?_ | refine op_v (v_cmpfA rfl rfl rfl) rfl ?_ | refine op_v (v_cmp rfl rfl rfl) rfl ?_
  refine ops_nil ?_
  refine post_next ?_
  refine code_cond rfl (fun hc0 => ?_) (fun hc0 => ?_)
  · have hlt : i < b.length := by simpa using hc0
    obtain ⟨hat2, hrt2⟩ := heb i hlt
    have hs2 := hat2.isSome
    have hob2 := hob b[i] (List.getElem_mem hlt)
    refine code_skip ?_
    refine post_next ?_
    refine code_seq ?_
    refine code_block ?_
    refine code_seq ?_
    refine code_region ?_
    refine op_v (v_assign rfl) rfl ?_
    refine ops_nil ?_
    refine post_next ?_
    refine code_seq ?_
    refine code_seq ?_
    refine code_region ?_
    refine op_v (v_assign rfl) rfl ?_
    refine ops_nil ?_
    refine post_next ?_
    refine code_block ?_
    refine code_loop (fun m σ' I' δ' => ∃ k : Nat, m = a.length - k ∧ k ≤ a.length ∧ σ' = [(0, .slice ga gs.length gc), (1, .slice aA a.length aC), (2, .slice bA b.length bC), (7, .int .i64 i), (8, .bool ((a.take k).any fun t => decide (stT gs t b[i] = 1))), (9, .int .i64 k)] ∧ I0.le I' ∧ δ' = []) a.length [(0, .slice ga gs.length gc), (1, .slice aA a.length aC), (2, .slice bA b.length bC), (7, .int .i64 i), (8, .bool false), (9, .int .i64 (0 : Nat))] ⟨0, rfl, Nat.zero_le _, rfl, Imm.le_refl _, rfl⟩ ⟨rfl, rfl, rfl, rfl, rfl, rfl, trivial⟩ ?_
    rintro m _ I1 _ ⟨k, rfl, hk, rfl, hI1, rfl⟩
    refine code_seq ?_
    refine code_seq ?_
    refine code_region ?_
    refine op_v (v_move rfl) rfl ?_
    refine op_v (v_move rfl) rfl ?_
    refine op_v (v_len Try.underlying23 rfl) rfl ?_
    first | refine op_v (v_cmptA rfl rfl rfl) rfl ?_ | refine op_v (v_cmpfA rfl rfl rfl) rfl ?_ | refine op_v (v_cmp rfl rfl rfl) rfl ?_
    refine ops_nil ?_
    refine post_next ?_
    refine code_cond rfl (fun hc1 => ?_) (fun hc1 => ?_)
    · have hltk : k < a.length := by simpa using hc1
      obtain ⟨hat1, hrt1⟩ := hea k hltk
      have hs1 := hat1.isSome
      have hoa2 := hoa a[k] (List.getElem_mem hltk)
      have hnext := any_take_succ' (fun t => decide (stT gs t b[i] = 1)) a hltk
      refine code_skip ?_
      refine post_next ?_
      refine code_seq ?_
      refine code_block ?_
      refine code_draw (.fl 0 (.fl 1 (.fl 2 (.fl 3 (.fl 4 (.fl 5 (.fl 6 (.fl 7 (.fl 8 (.fl 9 (.fl 10 (.ef 11 (.fl 12 (.ef 13 .done)))))))))))))) (fun _ => _) mixed (by kernel_rfl) (by kernel_rfl) (fun _ => (List.Sublist.refl _)) ?_
      refine e_fl rfl rfl (fun hs_ => PF.mk rfl (v_move rfl) hs_) ?_
      by_cases h23 : ((a.take k).any fun t => decide (stT gs t b[i] = 1)) = true
      · rw [h23] at hnext ⊢
        refine e_fl rfl rfl (fun hs_ => PF.mk rfl (v_move rfl) hs_) ?_
        first | refine e_fl rfl rfl (fun hs_ => PF.mkg rfl rfl rfl (v_move rfl) hs_) ?_ | refine e_fl rfl rfl (fun hs_ => PF.mks rfl (by intro c hc; cases hc) rfl rfl (by simp [undef]) hs_) ?_
        first | refine e_fl rfl rfl (fun hs_ => PF.mkg rfl rfl rfl (v_move rfl) hs_) ?_ | refine e_fl rfl rfl (fun hs_ => PF.mks rfl (by intro c hc; cases hc) rfl rfl (by simp [undef]) hs_) ?_
        first | refine e_fl rfl rfl (fun hs_ => PF.mkg rfl rfl rfl (v_move rfl) hs_) ?_ | refine e_fl rfl rfl (fun hs_ => PF.mks rfl (by intro c hc; cases hc) rfl rfl (by simp [undef]) hs_) ?_
        first | refine e_fl rfl rfl (fun hs_ => PF.mkg rfl rfl rfl (v_indexA Try.underlying23 sz25 rfl rfl) hs_) ?_ | refine e_fl rfl rfl (fun hs_ => PF.mkg rfl rfl rfl (v_indexIA Try.underlying23 sz25 rfl rfl) hs_) ?_ | refine e_fl rfl rfl (fun hs_ => PF.mks rfl (by intro c hc; cases hc) rfl rfl (by simp [undef]) hs_) ?_
        first | refine e_fl rfl rfl (fun hs_ => PF.mkg rfl rfl rfl (v_loadI0 ty25 (hat1.mono Imm.leA) rfl rfl rfl) hs_) ?_ | refine e_fl rfl rfl (fun hs_ => PF.mkg rfl rfl rfl (v_loadI ty25 (hat1.mono Imm.leA) rfl rfl rfl) hs_) ?_ | refine e_fl rfl rfl (fun hs_ => PF.mks rfl (by intro c hc; cases hc) rfl rfl (by simp [undef]) hs_) ?_
        first | refine e_fl rfl rfl (fun hs_ => PF.mkg rfl rfl rfl (v_move rfl) hs_) ?_ | refine e_fl rfl rfl (fun hs_ => PF.mks rfl (by intro c hc; cases hc) rfl rfl (by simp [undef]) hs_) ?_
        first | refine e_fl rfl rfl (fun hs_ => PF.mkg rfl rfl rfl (v_move rfl) hs_) ?_ | refine e_fl rfl rfl (fun hs_ => PF.mks rfl (by intro c hc; cases hc) rfl rfl (by simp [undef]) hs_) ?_
        first | refine e_fl rfl rfl (fun hs_ => PF.mkg rfl rfl rfl (v_indexA Try.underlying23 sz25 rfl rfl) hs_) ?_ | refine e_fl rfl rfl (fun hs_ => PF.mkg rfl rfl rfl (v_indexIA Try.underlying23 sz25 rfl rfl) hs_) ?_ | refine e_fl rfl rfl (fun hs_ => PF.mks rfl (by intro c hc; cases hc) rfl rfl (by simp [undef]) hs_) ?_
        first | refine e_fl rfl rfl (fun hs_ => PF.mkg rfl rfl rfl (v_loadI0 ty25 (hat2.mono Imm.leA) rfl rfl rfl) hs_) ?_ | refine e_fl rfl rfl (fun hs_ => PF.mkg rfl rfl rfl (v_loadI ty25 (hat2.mono Imm.leA) rfl rfl rfl) hs_) ?_ | refine e_fl rfl rfl (fun hs_ => PF.mks rfl (by intro c hc; cases hc) rfl rfl (by simp [undef]) hs_) ?_
        refine e_eff rfl (by intro cs b hc; cases hc) (by intro c hc; cases hc) ?_
        first
          | (refine op_want rfl rfl ?_
             refine op_call pl88 rfl rfl ((Greater_does _ _ _ (Nat.le_refl _) hoa2 hob2 _ _ _ _ (hg.mono Imm.leA) (hrt1.mono Imm.leA) (hrt2.mono Imm.leA))) Parts.none ?_
             rintro _ I33 _ hI33 ⟨rfl, rfl⟩)
          | (refine op_skip rfl rfl (by simp [undef]) rfl ?_)
        refine ops_nil ?_
        refine e_next rfl side_allA ?_
        first | refine e_fl rfl rfl (fun hs_ => PF.mk rfl (v_pickt rfl rfl) hs_) ?_ | refine e_fl rfl rfl (fun hs_ => PF.mk rfl (v_pickf rfl rfl) hs_) ?_ | refine e_fl rfl rfl (fun hs_ => PF.mk rfl (v_pickb rfl rfl rfl) hs_) ?_
        refine e_eff rfl (by intro cs b hc; cases hc) (by intro c hc; cases hc) ?_
        refine op_v (v_assign rfl) rfl ?_
        refine ops_nil ?_
        refine e_next rfl (side_nil (by kernel_rfl)) ?_
        refine e_done ?_
        refine post_out ?_
        refine post_next ?_
        refine code_region ?_
        refine op_v (v_move rfl) rfl ?_
        first | refine op_v (v_addb rfl rfl rfl (by omega)) rfl ?_ | refine op_v (v_add rfl rfl) rfl ?_
        refine op_v (v_assign rfl) rfl ?_
        refine ops_nil ?_
        refine post_again (a.length - (k + 1)) [(0, .slice ga gs.length gc), (1, .slice aA a.length aC), (2, .slice bA b.length bC), (7, .int .i64 i), (8, .bool true), (9, .int .i64 (k + 1 : Nat))] (by omega) ⟨k + 1, rfl, hltk, by rw [hnext]; rfl, Imm.leA, rfl⟩ ⟨rfl, rfl, rfl, rfl, rfl, rfl, trivial⟩
      · have h23' : ((a.take k).any fun t => decide (stT gs t b[i] = 1)) = false := by simpa using h23
        rw [h23'] at hnext ⊢
        refine e_fl rfl rfl (fun hs_ => PF.mk rfl (v_move rfl) hs_) ?_
        first | refine e_fl rfl rfl (fun hs_ => PF.mkg rfl rfl rfl (v_move rfl) hs_) ?_ | refine e_fl rfl rfl (fun hs_ => PF.mks rfl (by intro c hc; cases hc) rfl rfl (by simp [undef]) hs_) ?_
        first | refine e_fl rfl rfl (fun hs_ => PF.mkg rfl rfl rfl (v_move rfl) hs_) ?_ | refine e_fl rfl rfl (fun hs_ => PF.mks rfl (by intro c hc; cases hc) rfl rfl (by simp [undef]) hs_) ?_
        first | refine e_fl rfl rfl (fun hs_ => PF.mkg rfl rfl rfl (v_move rfl) hs_) ?_ | refine e_fl rfl rfl (fun hs_ => PF.mks rfl (by intro c hc; cases hc) rfl rfl (by simp [undef]) hs_) ?_
        first | refine e_fl rfl rfl (fun hs_ => PF.mkg rfl rfl rfl (v_indexA Try.underlying23 sz25 rfl rfl) hs_) ?_ | refine e_fl rfl rfl (fun hs_ => PF.mkg rfl rfl rfl (v_indexIA Try.underlying23 sz25 rfl rfl) hs_) ?_ | refine e_fl rfl rfl (fun hs_ => PF.mks rfl (by intro c hc; cases hc) rfl rfl (by simp [undef]) hs_) ?_
        first | refine e_fl rfl rfl (fun hs_ => PF.mkg rfl rfl rfl (v_loadI0 ty25 (hat1.mono Imm.leA) rfl rfl rfl) hs_) ?_ | refine e_fl rfl rfl (fun hs_ => PF.mkg rfl rfl rfl (v_loadI ty25 (hat1.mono Imm.leA) rfl rfl rfl) hs_) ?_ | refine e_fl rfl rfl (fun hs_ => PF.mks rfl (by intro c hc; cases hc) rfl rfl (by simp [undef]) hs_) ?_
        first | refine e_fl rfl rfl (fun hs_ => PF.mkg rfl rfl rfl (v_move rfl) hs_) ?_ | refine e_fl rfl rfl (fun hs_ => PF.mks rfl (by intro c hc; cases hc) rfl rfl (by simp [undef]) hs_) ?_
        first | refine e_fl rfl rfl (fun hs_ => PF.mkg rfl rfl rfl (v_move rfl) hs_) ?_ | refine e_fl rfl rfl (fun hs_ => PF.mks rfl (by intro c hc; cases hc) rfl rfl (by simp [undef]) hs_) ?_
        first | refine e_fl rfl rfl (fun hs_ => PF.mkg rfl rfl rfl (v_indexA Try.underlying23 sz25 rfl rfl) hs_) ?_ | refine e_fl rfl rfl (fun hs_ => PF.mkg rfl rfl rfl (v_indexIA Try.underlying23 sz25 rfl rfl) hs_) ?_ | refine e_fl rfl rfl (fun hs_ => PF.mks rfl (by intro c hc; cases hc) rfl rfl (by simp [undef]) hs_) ?_
        first | refine e_fl rfl rfl (fun hs_ => PF.mkg rfl rfl rfl (v_loadI0 ty25 (hat2.mono Imm.leA) rfl rfl rfl) hs_) ?_ | refine e_fl rfl rfl (fun hs_ => PF.mkg rfl rfl rfl (v_loadI ty25 (hat2.mono Imm.leA) rfl rfl rfl) hs_) ?_ | refine e_fl rfl rfl (fun hs_ => PF.mks rfl (by intro c hc; cases hc) rfl rfl (by simp [undef]) hs_) ?_
        refine e_eff rfl (by intro cs b hc; cases hc) (by intro c hc; cases hc) ?_
        first
          | (refine op_want rfl rfl ?_
             refine op_call pl88 rfl rfl ((Greater_does _ _ _ (Nat.le_refl _) hoa2 hob2 _ _ _ _ (hg.mono Imm.leA) (hrt1.mono Imm.leA) (hrt2.mono Imm.leA))) Parts.none ?_
             rintro _ I33 _ hI33 ⟨rfl, rfl⟩)
          | (refine op_skip rfl rfl (by simp [undef]) rfl ?_)
        refine ops_nil ?_
        refine e_next rfl side_allA ?_
        first | refine e_fl rfl rfl (fun hs_ => PF.mk rfl (v_pickt rfl rfl) hs_) ?_ | refine e_fl rfl rfl (fun hs_ => PF.mk rfl (v_pickf rfl rfl) hs_) ?_ | refine e_fl rfl rfl (fun hs_ => PF.mk rfl (v_pickb rfl rfl rfl) hs_) ?_
        refine e_eff rfl (by intro cs b hc; cases hc) (by intro c hc; cases hc) ?_
        refine op_v (v_assign rfl) rfl ?_
        refine ops_nil ?_
        refine e_next rfl (side_nil (by kernel_rfl)) ?_
        refine e_done ?_
        refine post_out ?_
        refine post_next ?_
        refine code_region ?_
        refine op_v (v_move rfl) rfl ?_
        first | refine op_v (v_addb rfl rfl rfl (by omega)) rfl ?_ | refine op_v (v_add rfl rfl) rfl ?_
        refine op_v (v_assign rfl) rfl ?_
        refine ops_nil ?_
        refine post_again (a.length - (k + 1)) [(0, .slice ga gs.length gc), (1, .slice aA a.length aC), (2, .slice bA b.length bC), (7, .int .i64 i), (8, .bool (decide (stT gs a[k] b[i] = 1))), (9, .int .i64 (k + 1 : Nat))] (by omega) ⟨k + 1, rfl, hltk, by rw [hnext]; rfl, Imm.leA, rfl⟩ ⟨rfl, rfl, rfl, rfl, rfl, rfl, trivial⟩
    · have hgek : k = a.length := by simp at hc1; omega
      subst hgek
      rw [List.take_length]
      refine code_exit ?_
      refine post_exit_then ?_
      refine post_exit_then ?_
      refine post_exit ?_
      refine post_next ?_
      refine code_seq ?_
      refine code_region ?_
      refine op_v (v_move rfl) rfl ?_
      by_cases h36 : (a.any fun t => decide (stT gs t b[i] = 1)) = true
      · rw [h36]
        refine op_v (v_not rfl) rfl ?_
        refine ops_nil ?_
        refine post_next ?_
        refine code_cond_f rfl ?_
        refine code_skip ?_
        refine post_out ?_
        refine post_next ?_
        refine code_region ?_
        refine op_v (v_move rfl) rfl ?_
        first | refine op_v (v_addb rfl rfl rfl (by omega)) rfl ?_ | refine op_v (v_add rfl rfl) rfl ?_
        refine op_v (v_assign rfl) rfl ?_
        refine ops_nil ?_
        refine post_again (b.length - (i + 1)) [(0, .slice ga gs.length gc), (1, .slice aA a.length aC), (2, .slice bA b.length bC), (7, .int .i64 (i + 1 : Nat))] (by omega) ⟨i + 1, rfl, hlt, rfl, Imm.leA, rfl, fun j hj hji => ?_⟩ ⟨rfl, rfl, rfl, rfl, trivial⟩
        rcases Nat.lt_or_ge j i with hq | hq
        · exact hp j hj hq
        have hq2 : j = i := by omega
        subst hq2
        exact h36
      · have h36' : (a.any fun t => decide (stT gs t b[i] = 1)) = false := by simpa using h36
        rw [h36']
        refine op_v (v_not rfl) rfl ?_
        refine ops_nil ?_
        refine post_next ?_
        refine code_cond_t rfl ?_
        refine code_seq ?_
        refine code_region ?_
        refine op_v (v_assign rfl) rfl ?_
        refine ops_nil ?_
        refine post_next ?_
        refine code_ret ?_
        refine post_ret_block ?_
        refine post_ret_then ?_
        refine post_ret_then ?_
        refine post_ret_block ?_
        refine post_ret_then ?_
        refine post_ret (rs := [.tmp 6]) rfl (List.Perm.refl _) (.cons (.tmp rfl) .nil) (List.nil_sublist _) ?_
        have hov : overL gs a b = false := by
          cases hq : overL gs a b with
          | false => rfl
          | true =>
            unfold overL at hq
            rw [Bool.and_eq_true, List.all_eq_true] at hq
            exact absurd (hq.2 b[i] (List.getElem_mem hlt)) h36
        exact ⟨by rw [hov]; rfl, rfl⟩
  · have hge : i = b.length := by simp at hc0; omega
    refine code_exit ?_
    refine post_exit_then ?_
    refine post_exit_then ?_
    refine post_exit ?_
    refine post_next ?_
    refine code_seq ?_
    refine code_region ?_
    refine op_v (v_move rfl) rfl ?_
    refine op_v (v_len Try.underlying23 rfl) rfl ?_
    first | refine op_v (v_cmptA rfl rfl rfl) rfl ?_ | refine op_v (v_cmpfA rfl rfl rfl) rfl ?_ | refine op_v (v_cmp rfl rfl rfl) rfl ?_
    refine op_v (v_assign rfl) rfl ?_
    refine ops_nil ?_
    refine post_next ?_
    refine code_ret ?_
    refine post_ret (rs := [.tmp 6]) rfl (List.Perm.refl _) (.cons (.tmp rfl) .nil) (List.nil_sublist _) ?_
    have hall : (b.all fun u => a.any fun t => decide (stT gs t u = 1)) = true := List.all_eq_true.2 fun u hu => by obtain ⟨j, hj, rfl⟩ := List.getElem_of_mem hu; exact hp j hj (by omega)
    exact ⟨bool_b (by unfold overL; rw [hall, Bool.and_true]; simp), rfl⟩
theorem Rows_does {I : Imm} {vg va vb : Value} {gs : List Sy} {a b : List T} (hg : RepG I vg gs) (ha : RepS I va a) (hb : RepS I vb b) (hoa : ∀ t ∈ a, OkG gs t) (hob : ∀ t ∈ b, OkG gs t) (hla : a.length ≤ 1000000) (hlb : b.length ≤ 1000000) :
    Does Try.prog 71 [vg, va, vb] I [] (fun v _ δ' => v = .int .i64 (mulG gs a b) ∧ δ' = []) := by
  obtain ⟨aa, ac, rfl⟩ := ha.shape
  obtain ⟨ba, bc, rfl⟩ := hb.shape
  have hl1 := rsL_len a b
  have hl2 := rsL_len b a
  have hsa : ∀ t ∈ a, t.size ≤ 1000000000 := fun t ht => by have := chkT_size (hoa t ht).chk; omega
  have hsb : ∀ t ∈ b, t.size ≤ 1000000000 := fun t ht => by have := chkT_size (hob t ht).chk; omega
  refine Does.intro Try.func71 rfl Try.ntmps71 rfl fun w0 => ?_
  refine code_seq ?_
  refine code_region ?_
  refine op_v (v_assign rfl) rfl ?_
  refine ops_nil ?_
  refine post_next ?_
  refine code_seq ?_
  refine code_region ?_
  refine op_v (v_move rfl) rfl ?_
  refine op_v (v_move rfl) rfl ?_
  refine op_call pl104 rfl rfl ((without_does (ha.mono Imm.leA) (hb.mono Imm.leA) hsa hsb hla hlb)) Parts.none ?_
  rintro v11 I11 _ hI11 ⟨hv11, rfl⟩
  obtain ⟨xa, xc, rfl⟩ := hv11.shape
  refine op_v (v_assign rfl) rfl ?_
  refine ops_nil ?_
  refine post_next ?_
  refine code_seq ?_
  refine code_region ?_
  refine op_v (v_move rfl) rfl ?_
  refine op_v (v_move rfl) rfl ?_
  refine op_call pl104 rfl rfl ((without_does (hb.mono Imm.leA) (ha.mono Imm.leA) hsb hsa hlb hla)) Parts.none ?_
  rintro v14 I14 _ hI14 ⟨hv14, rfl⟩
  obtain ⟨ya, yc, rfl⟩ := hv14.shape
  refine op_v (v_assign rfl) rfl ?_
  refine ops_nil ?_
  refine post_next ?_
  refine code_seq ?_
  refine code_seq ?_
  refine code_region ?_
  refine op_v (v_move rfl) rfl ?_
  refine op_v (v_len Try.underlying23 rfl) rfl ?_
  refine op_v (v_move rfl) rfl ?_
  refine op_v (v_len Try.underlying23 rfl) rfl ?_
  first | refine op_v (v_addb rfl rfl rfl (by omega)) rfl ?_ | refine op_v (v_add rfl rfl) rfl ?_
  by_cases h20 : (rsL a b).length + (rsL b a).length = 0
  · first | refine op_v (v_cmptA rfl rfl rfl) rfl ?_ | refine op_v (v_cmpfA rfl rfl rfl) rfl ?_ | refine op_v (v_cmp rfl rfl rfl) rfl ?_
    refine ops_nil ?_
    refine post_next ?_
    refine code_cond_t rfl ?_
    refine code_seq ?_
    refine code_region ?_
    refine op_v (v_assign rfl) rfl ?_
    refine ops_nil ?_
    refine post_next ?_
    refine code_ret ?_
    refine post_ret_then ?_
    refine post_ret (rs := [.tmp 6]) rfl (List.Perm.refl _) (.cons (.tmp rfl) .nil) (List.nil_sublist _) ?_
    exact ⟨by simp only [outV, mulG]; rw [if_pos h20], rfl⟩
  · first | refine op_v (v_cmptA rfl rfl rfl) rfl ?_ | refine op_v (v_cmpfA rfl rfl rfl) rfl ?_ | refine op_v (v_cmp rfl rfl rfl) rfl ?_
    refine ops_nil ?_
    refine post_next ?_
    refine code_cond_f rfl ?_
    refine code_skip ?_
    refine post_next ?_
    refine code_seq ?_
    refine code_seq ?_
    refine code_region ?_
    refine op_v (v_move rfl) rfl ?_
    refine op_v (v_move rfl) rfl ?_
    refine op_v (v_move rfl) rfl ?_
    refine op_call pl105 rfl rfl ((Rover_does (hg.mono Imm.leA) (hv11.mono Imm.leA) (hv14.mono Imm.leA) (fun t ht => hoa t (rsL_mem ht)) (fun t ht => hob t (rsL_mem ht)) (by omega) (by omega))) Parts.none ?_
    rintro v24 I24 _ hI24 ⟨rfl, rfl⟩
    refine ops_nil ?_
    refine post_next ?_
    refine code_cond rfl (fun hc1 => ?_) (fun hc1 => ?_)
    · have h24 : overL gs (rsL a b) (rsL b a) = true := hc1
      refine code_seq ?_
      refine code_region ?_
      refine op_v (v_assign rfl) rfl ?_
      refine ops_nil ?_
      refine post_next ?_
      refine code_ret ?_
      refine post_ret_then ?_
      refine post_ret (rs := [.tmp 6]) rfl (List.Perm.refl _) (.cons (.tmp rfl) .nil) (List.nil_sublist _) ?_
      exact ⟨by simp only [outV, mulG]; rw [if_neg h20, if_pos h24], rfl⟩
    · have h24 : ¬ overL gs (rsL a b) (rsL b a) = true := by rw [hc1]; simp
      refine code_skip ?_
      refine post_next ?_
      refine code_seq ?_
      refine code_seq ?_
      refine code_region ?_
      refine op_v (v_move rfl) rfl ?_
      refine op_v (v_move rfl) rfl ?_
      refine op_v (v_move rfl) rfl ?_
      refine op_call pl105 rfl rfl ((Rover_does (hg.mono Imm.leA) (hv14.mono Imm.leA) (hv11.mono Imm.leA) (fun t ht => hob t (rsL_mem ht)) (fun t ht => hoa t (rsL_mem ht)) (by omega) (by omega))) Parts.none ?_
      rintro v28 I28 _ hI28 ⟨rfl, rfl⟩
      refine ops_nil ?_
      refine post_next ?_
      refine code_cond rfl (fun hc2 => ?_) (fun hc2 => ?_)
      · have h28 : overL gs (rsL b a) (rsL a b) = true := hc2
        refine code_seq ?_
        refine code_region ?_
        refine op_v (v_assign rfl) rfl ?_
        refine ops_nil ?_
        refine post_next ?_
        refine code_ret ?_
        refine post_ret_then ?_
        refine post_ret (rs := [.tmp 6]) rfl (List.Perm.refl _) (.cons (.tmp rfl) .nil) (List.nil_sublist _) ?_
        exact ⟨by simp only [outV, mulG]; rw [if_neg h20, if_neg h24, if_pos h28], rfl⟩
      · have h28 : ¬ overL gs (rsL b a) (rsL a b) = true := by rw [hc2]; simp
        refine code_skip ?_
        refine post_next ?_
        refine code_seq ?_
        refine code_region ?_
        refine op_v (v_assign rfl) rfl ?_
        refine ops_nil ?_
        refine post_next ?_
        refine code_ret ?_
        refine post_ret (rs := [.tmp 6]) rfl (List.Perm.refl _) (.cons (.tmp rfl) .nil) (List.nil_sublist _) ?_
        exact ⟨by simp only [outV, mulG]; rw [if_neg h20, if_neg h24, if_neg h28], rfl⟩
theorem RMulti_does {I : Imm} {vg va vb : Value} {gs : List Sy} {a b : List T} (hg : RepG I vg gs) (ha : RepS I va a) (hb : RepS I vb b) (hsa : ∀ t ∈ a, t.size ≤ 1000000000) (hsb : ∀ t ∈ b, t.size ≤ 1000000000) (hla : a.length ≤ 1000000) (hlb : b.length ≤ 1000000) :
    Does Try.prog 32 [vg, va, vb] I [] (fun v _ δ' => v = .tuple #[.int .i64 (if wrongG gs (a ++ b) = 0 then mulG gs a b else 0), .int .i64 (wrongG gs (a ++ b))] ∧ δ' = []) := by
  obtain ⟨ga, gc, rfl⟩ := hg.shape
  obtain ⟨aA, aC, aS, xa, rfl, hca, hra, hba, hea⟩ := ha.row
  obtain ⟨bA, bC, bS, xb, rfl, hcb, hrb, hbb, heb⟩ := hb.row
  have hlab : (a ++ b).length = a.length + b.length := by simp
  have hsab : ∀ t ∈ a ++ b, t.size ≤ 1000000000 := fun t ht => by rcases List.mem_append.1 ht with h | h; exact hsa t h; exact hsb t h
  refine Does.intro Try.func32 rfl Try.ntmps32 rfl fun w0 => ?_
  refine code_seq ?_
  refine code_region ?_
  refine op_v (v_assign rfl) rfl ?_
  refine op_v (v_assign rfl) rfl ?_
  refine ops_nil ?_
  refine post_next ?_
  refine code_seq ?_
  refine code_region ?_
  refine op_v (v_assign rfl) rfl ?_
  refine ops_nil ?_
  refine post_next ?_
  refine code_seq ?_
  refine code_region ?_
  refine op_v (v_move rfl) rfl ?_
  refine op_v (v_move rfl) rfl ?_
  refine OpsJ.view (View.nilRow 25 2) ?_
  refine o_append Try.underlying23 bs25 rfl rfl rfl (fun v' => by repeat (first | exact Swap.here | apply Swap.there)) (Src.ofI (hca.mono Imm.leA)) hra.1 hra.one1 (by omega) (by omega) (fun a13 c13 => ?_)
  refine op_v (v_assign rfl) rfl ?_
  refine ops_nil ?_
  refine post_next ?_
  refine code_seq ?_
  refine code_region ?_
  refine op_v (v_move rfl) rfl ?_
  refine op_v (v_move rfl) rfl ?_
  refine o_append Try.underlying23 bs25 rfl rfl rfl (fun v' => by repeat (first | exact Swap.here | apply Swap.there)) (Src.ofI (hcb.mono Imm.leA)) hrb.1 hrb.one1 (by omega) (by omega) (fun a16 c16 => ?_)
  refine OpsJ.freezeRow Del.here ?_
  rintro I16 b16 e16 hI16 hq hc16 hl16 hcells16
  cases hq
  have hab : RepS I16 (.slice a16 (0 + a.length + b.length) c16) (a ++ b) := RowT.repS (by simp) hcells16 ((hra.mono Imm.leA).app (hrb.mono Imm.leA)) hc16 (by omega)
  have hnum : 0 + a.length + b.length = (a ++ b).length := by simp
  rw [hnum] at hab ⊢
  obtain ⟨_, _, pS, xp, hqq, hcp, hrp, hbp, hep⟩ := hab.row
  cases hqq
  refine op_v (v_assign rfl) rfl ?_
  refine ops_nil ?_
  refine post_next ?_
  refine code_seq ?_
  refine code_seq ?_
  refine code_region ?_
  refine op_v (v_assign rfl) rfl ?_
  refine ops_nil ?_
  refine post_next ?_
  refine code_block ?_
  refine code_loop (fun m σ' I' δ' => ∃ k : Nat, m = (a ++ b).length - k ∧ k ≤ (a ++ b).length ∧ σ' = [(0, .slice ga gs.length gc), (1, .slice aA a.length aC), (2, .slice bA b.length bC), (8, .slice a16 (a ++ b).length c16), (9, .int .i64 k)] ∧ I16.le I' ∧ δ' = [] ∧ ∀ t ∈ (a ++ b).take k, termG gs t = 0) (a ++ b).length [(0, .slice ga gs.length gc), (1, .slice aA a.length aC), (2, .slice bA b.length bC), (8, .slice a16 (a ++ b).length c16), (9, .int .i64 (0 : Nat))] ⟨0, rfl, Nat.zero_le _, rfl, Imm.le_refl _, rfl, fun t h => by simp at h⟩ ⟨rfl, rfl, rfl, rfl, rfl, trivial⟩ ?_
  rintro m _ I0 _ ⟨k, rfl, hk, rfl, hI0, rfl, hp⟩
  refine code_seq ?_
  refine code_seq ?_
  refine code_region ?_
  refine op_v (v_move rfl) rfl ?_
  refine op_v (v_move rfl) rfl ?_
  refine op_v (v_len Try.underlying23 rfl) rfl ?_
  first | refine op_v (v_cmptA rfl rfl rfl) rfl ?_ | refine op_v (v_cmpfA rfl rfl rfl) rfl ?_ | refine op_v (v_cmp rfl rfl rfl) rfl ?_
  refine ops_nil ?_
  refine post_next ?_
  refine code_cond rfl (fun hc0 => ?_) (fun hc0 => ?_)
  · have hlt : k < (a ++ b).length := by have h := hc0; simp only [decide_eq_true_eq] at h; omega
    obtain ⟨hat1, hrt1⟩ := hep k hlt
    have hs1 := hat1.isSome
    refine code_skip ?_
    refine post_next ?_
    refine code_seq ?_
    refine code_block ?_
    refine code_seq ?_
    refine code_region ?_
    refine op_v (v_move rfl) rfl ?_
    refine op_v (v_move rfl) rfl ?_
    refine op_v (v_move rfl) rfl ?_
    first | refine op_v (v_indexA Try.underlying23 sz25 rfl rfl) rfl ?_ | refine op_v (v_indexIA Try.underlying23 sz25 rfl rfl) rfl ?_
    first | refine op_v (v_loadI0 ty25 (hat1.mono hI0) rfl rfl rfl) rfl ?_ | refine op_v (v_loadI ty25 (hat1.mono hI0) rfl rfl rfl) rfl ?_
    refine op_call pl63 rfl rfl ((RTerm_does (hg.mono Imm.leA) (hrt1.mono Imm.leA) (hsab _ (List.getElem_mem _)))) Parts.none ?_
    rintro _ I28 _ hI28 ⟨rfl, rfl⟩
    refine op_v (v_assign rfl) rfl ?_
    refine ops_nil ?_
    refine post_next ?_
    refine code_seq ?_
    refine code_region ?_
    refine op_v (v_move rfl) rfl ?_
    by_cases h30 : termG gs (a ++ b)[k] ≠ 0
    · first | refine op_v (v_cmptA rfl rfl rfl) rfl ?_ | refine op_v (v_cmpfA rfl rfl rfl) rfl ?_ | refine op_v (v_cmp rfl rfl rfl) rfl ?_
      refine ops_nil ?_
      refine post_next ?_
      refine code_cond_t rfl ?_
      refine code_seq ?_
      refine code_region ?_
      refine op_v (v_move rfl) rfl ?_
      refine op_v (v_assign rfl) rfl ?_
      refine op_v (v_assign rfl) rfl ?_
      refine ops_nil ?_
      refine post_next ?_
      refine code_ret ?_
      refine post_ret_block ?_
      refine post_ret_then ?_
      refine post_ret_then ?_
      refine post_ret_block ?_
      refine post_ret_then ?_
      refine post_ret (rs := [.tmp 6, .tmp 7]) rfl (List.Perm.refl _) (.cons (.tmp rfl) (.cons (.tmp rfl) .nil)) (List.nil_sublist _) ?_
      have hw := wrongG_take hlt hp h30
      exact ⟨by rw [hw, if_neg h30]; rfl, rfl⟩
    · first | refine op_v (v_cmptA rfl rfl rfl) rfl ?_ | refine op_v (v_cmpfA rfl rfl rfl) rfl ?_ | refine op_v (v_cmp rfl rfl rfl) rfl ?_
      refine ops_nil ?_
      refine post_next ?_
      refine code_cond_f rfl ?_
      refine code_skip ?_
      refine post_out ?_
      refine post_next ?_
      refine code_region ?_
      refine op_v (v_move rfl) rfl ?_
      first | refine op_v (v_addb rfl rfl rfl (by omega)) rfl ?_ | refine op_v (v_add rfl rfl) rfl ?_
      refine op_v (v_assign rfl) rfl ?_
      refine ops_nil ?_
      refine post_again ((a ++ b).length - (k + 1)) [(0, .slice ga gs.length gc), (1, .slice aA a.length aC), (2, .slice bA b.length bC), (8, .slice a16 (a ++ b).length c16), (9, .int .i64 (k + 1 : Nat))] (by omega) ⟨k + 1, rfl, hlt, rfl, Imm.leA, rfl, fun t ht => ?_⟩ ⟨rfl, rfl, rfl, rfl, rfl, trivial⟩
      rw [List.take_succ_eq_append_getElem hlt, List.mem_append, List.mem_singleton] at ht
      rcases ht with ht | ht
      · exact hp t ht
      · subst ht; omega
  · have hge : k = (a ++ b).length := by have h := hc0; simp only [decide_eq_false_iff_not] at h; omega
    refine code_exit ?_
    refine post_exit_then ?_
    refine post_exit_then ?_
    refine post_exit ?_
    refine post_next ?_
    refine code_seq ?_
    refine code_region ?_
    subst hge
    rw [List.take_length] at hp
    have h0 := wrongG_all hp
    have hall := wrongG_ok.1 h0
    refine op_v (v_move rfl) rfl ?_
    refine op_v (v_move rfl) rfl ?_
    refine op_v (v_move rfl) rfl ?_
    refine op_call pl71 rfl rfl ((Rows_does (hg.mono Imm.leA) (ha.mono Imm.leA) (hb.mono Imm.leA) (fun t ht => hall t (List.mem_append_left _ ht)) (fun t ht => hall t (List.mem_append_right _ ht)) hla hlb)) Parts.none ?_
    rintro _ I35 _ hI35 ⟨rfl, rfl⟩
    refine op_v (v_assign rfl) rfl ?_
    refine op_v (v_assign rfl) rfl ?_
    refine ops_nil ?_
    refine post_next ?_
    refine code_ret ?_
    refine post_ret (rs := [.tmp 6, .tmp 7]) rfl (List.Perm.refl _) (.cons (.tmp rfl) (.cons (.tmp rfl) .nil)) (List.nil_sublist _) ?_
    exact ⟨by rw [if_pos h0, h0]; rfl, rfl⟩
theorem KboRows_does {I : Imm} {vg va vb : Value} {gs : List Sy} {a b : List T} (hg : RepG I vg gs) (ha : RepS I va a) (hb : RepS I vb b) :
    Does Try.prog 6 [vg, va, vb] I [] (fun v I' δ' => v = .bool true ∧ δ' = []) := by
  obtain ⟨aA, aC, aS, xa, rfl, hca, hra, hba, hea⟩ := ha.row
  obtain ⟨bA, bC, bS, xb, rfl, hcb, hrb, hbb, heb⟩ := hb.row
  refine Does.intro Try.func6 rfl Try.ntmps6 rfl fun w0 => ?_
  refine code_seq ?_
  refine code_region ?_
  refine op_v (v_assign rfl) rfl ?_
  refine ops_nil ?_
  refine post_next ?_
  refine code_seq ?_
  refine code_seq ?_
  refine code_region ?_
  refine op_v (v_move rfl) rfl ?_
  refine op_v (v_move rfl) rfl ?_
  refine op_call pl28 rfl rfl ((few8_does (hg.mono Imm.leA) (ha.mono Imm.leA))) Parts.none ?_
  rintro v13 I13 _ hI13 ⟨⟨b13, rfl, hb13⟩, rfl⟩
  by_cases h14 : b13 = true
  · subst h14
    have hsa := hb13 rfl
    refine op_v (v_not rfl) rfl ?_
    refine op_v (v_move rfl) rfl ?_
    first
      | (refine op_want rfl rfl ?_
         refine op_v (v_move rfl) rfl ?_)
      | (refine op_skip rfl rfl (by simp [undef]) rfl ?_)
    first
      | (refine op_want rfl rfl ?_
         refine op_v (v_move rfl) rfl ?_)
      | (refine op_skip rfl rfl (by simp [undef]) rfl ?_)
    first
      | (refine op_want rfl rfl ?_
         refine op_call pl28 rfl rfl ((few8_does (hg.mono Imm.leA) (hb.mono Imm.leA))) Parts.none ?_
         rintro v18 I18 _ hI18 ⟨⟨b18, rfl, hb18⟩, rfl⟩)
      | (refine op_skip rfl rfl (by simp [undef]) rfl ?_)
    by_cases h19 : b18 = true
    · subst h19
      have hsb := hb18 rfl
      first
        | (refine op_want rfl rfl ?_
           refine op_v (v_not rfl) rfl ?_)
        | (refine op_skip rfl rfl (by simp [undef]) rfl ?_)
      first | refine op_v (v_pickt rfl rfl) rfl ?_ | refine op_v (v_pickf rfl rfl) rfl ?_ | refine op_v (v_pickb rfl rfl rfl) rfl ?_
      refine op_v (v_move rfl) rfl ?_
      first
        | (refine op_want rfl rfl ?_
           refine op_v (v_move rfl) rfl ?_)
        | (refine op_skip rfl rfl (by simp [undef]) rfl ?_)
      first
        | (refine op_want rfl rfl ?_
           refine op_v (v_len Try.underlying23 rfl) rfl ?_)
        | (refine op_skip rfl rfl (by simp [undef]) rfl ?_)
      first
        | (refine op_want rfl rfl ?_
           refine op_v (v_move rfl) rfl ?_)
        | (refine op_skip rfl rfl (by simp [undef]) rfl ?_)
      first
        | (refine op_want rfl rfl ?_
           refine op_v (v_len Try.underlying23 rfl) rfl ?_)
        | (refine op_skip rfl rfl (by simp [undef]) rfl ?_)
      first
        | (refine op_want rfl rfl ?_
           first | refine op_v (v_addb rfl rfl rfl (by omega)) rfl ?_ | refine op_v (v_add rfl rfl) rfl ?_)
        | (refine op_skip rfl rfl (by simp [undef]) rfl ?_)
      by_cases h27 : 20 < a.length + b.length
      · first
          | (refine op_want rfl rfl ?_
             first | refine op_v (v_cmptA rfl rfl rfl) rfl ?_ | refine op_v (v_cmpfA rfl rfl rfl) rfl ?_ | refine op_v (v_cmp rfl rfl rfl) rfl ?_)
          | (refine op_skip rfl rfl (by simp [undef]) rfl ?_)
        first | refine op_v (v_pickt rfl rfl) rfl ?_ | refine op_v (v_pickf rfl rfl) rfl ?_ | refine op_v (v_pickb rfl rfl rfl) rfl ?_
        refine ops_nil ?_
        refine post_next ?_
        refine code_cond_t rfl ?_
        refine code_seq ?_
        refine code_region ?_
        refine op_v (v_assign rfl) rfl ?_
        refine ops_nil ?_
        refine post_next ?_
        refine code_ret ?_
        refine post_ret_then ?_
        refine post_ret (rs := [.tmp 6]) rfl (List.Perm.refl _) (.cons (.tmp rfl) .nil) (List.nil_sublist _) ?_
        exact ⟨rfl, rfl⟩
      · have hla : a.length ≤ 20 := by omega
        have hlb : b.length ≤ 20 := by omega
        first
          | (refine op_want rfl rfl ?_
             first | refine op_v (v_cmptA rfl rfl rfl) rfl ?_ | refine op_v (v_cmpfA rfl rfl rfl) rfl ?_ | refine op_v (v_cmp rfl rfl rfl) rfl ?_)
          | (refine op_skip rfl rfl (by simp [undef]) rfl ?_)
        first | refine op_v (v_pickt rfl rfl) rfl ?_ | refine op_v (v_pickf rfl rfl) rfl ?_ | refine op_v (v_pickb rfl rfl rfl) rfl ?_
        refine ops_nil ?_
        refine post_next ?_
        refine code_cond_f rfl ?_
        refine code_skip ?_
        refine post_next ?_
        refine code_seq ?_
        refine code_region ?_
        refine op_v (v_move rfl) rfl ?_
        refine op_v (v_move rfl) rfl ?_
        refine op_v (v_move rfl) rfl ?_
        refine op_call pl31 rfl rfl ((Multi_does (hg.mono Imm.leA) (ha.mono Imm.leA) (hb.mono Imm.leA) (fun x hx => by have := hsa x hx; omega) (fun x hx => by have := hsb x hx; omega) (by omega) (by omega))) Parts.none ?_
        rintro v33 I33 _ hI33 ⟨rfl, rfl⟩
        refine op_v (v_move rfl) rfl ?_
        refine op_v (v_extract rfl rfl) rfl ?_
        refine op_v (v_extract rfl rfl) rfl ?_
        refine op_v (v_assign rfl) rfl ?_
        refine op_v (v_assign rfl) rfl ?_
        refine ops_nil ?_
        refine post_next ?_
        refine code_seq ?_
        refine code_region ?_
        refine op_v (v_move rfl) rfl ?_
        refine op_v (v_move rfl) rfl ?_
        refine op_v (v_move rfl) rfl ?_
        refine op_call pl32 rfl rfl ((RMulti_does (hg.mono Imm.leA) (ha.mono Imm.leA) (hb.mono Imm.leA) (fun x hx => by have := hsa x hx; omega) (fun x hx => by have := hsb x hx; omega) (by omega) (by omega))) Parts.none ?_
        rintro v40 I40 _ hI40 ⟨rfl, rfl⟩
        refine op_v (v_move rfl) rfl ?_
        refine op_v (v_extract rfl rfl) rfl ?_
        refine op_v (v_extract rfl rfl) rfl ?_
        refine op_v (v_assign rfl) rfl ?_
        refine op_v (v_assign rfl) rfl ?_
        refine ops_nil ?_
        refine post_next ?_
        refine code_seq ?_
        refine code_region ?_
        refine op_call pl30 rfl rfl ((awake8_does _)) Parts.none ?_
        rintro v43 I43 _ hI43 ⟨rfl, rfl⟩
        refine op_v (v_move rfl) rfl ?_
        first
          | (refine op_want rfl rfl ?_
             refine op_v (v_move rfl) rfl ?_)
          | (refine op_skip rfl rfl (by simp [undef]) rfl ?_)
        first
          | (refine op_want rfl rfl ?_
             refine op_v (v_move rfl) rfl ?_)
          | (refine op_skip rfl rfl (by simp [undef]) rfl ?_)
        first
          | (refine op_want rfl rfl ?_
             refine op_v (v_cmpt rfl rfl rfl rfl) rfl ?_)
          | (refine op_skip rfl rfl (by simp [undef]) rfl ?_)
        first | refine op_v (v_pickt rfl rfl) rfl ?_ | refine op_v (v_pickf rfl rfl) rfl ?_ | refine op_v (v_pickb rfl rfl rfl) rfl ?_
        refine op_v (v_move rfl) rfl ?_
        first
          | (refine op_want rfl rfl ?_
             refine op_v (v_move rfl) rfl ?_)
          | (refine op_skip rfl rfl (by simp [undef]) rfl ?_)
        first
          | (refine op_want rfl rfl ?_
             refine op_v (v_move rfl) rfl ?_)
          | (refine op_skip rfl rfl (by simp [undef]) rfl ?_)
        first
          | (refine op_want rfl rfl ?_
             refine op_v (v_cmpt rfl rfl rfl rfl) rfl ?_)
          | (refine op_skip rfl rfl (by simp [undef]) rfl ?_)
        first | refine op_v (v_pickt rfl rfl) rfl ?_ | refine op_v (v_pickf rfl rfl) rfl ?_ | refine op_v (v_pickb rfl rfl rfl) rfl ?_
        refine op_v (v_assign rfl) rfl ?_
        refine ops_nil ?_
        refine post_next ?_
        refine code_ret ?_
        refine post_ret (rs := [.tmp 6]) rfl (List.Perm.refl _) (.cons (.tmp rfl) .nil) (List.nil_sublist _) ?_
        exact ⟨rfl, rfl⟩
    · have h19' : b18 = false := by simpa using h19
      subst h19'
      first
        | (refine op_want rfl rfl ?_
           refine op_v (v_not rfl) rfl ?_)
        | (refine op_skip rfl rfl (by simp [undef]) rfl ?_)
      first | refine op_v (v_pickt rfl rfl) rfl ?_ | refine op_v (v_pickf rfl rfl) rfl ?_ | refine op_v (v_pickb rfl rfl rfl) rfl ?_
      refine op_v (v_move rfl) rfl ?_
      first
        | (refine op_want rfl rfl ?_
           refine op_v (v_move rfl) rfl ?_)
        | (refine op_skip rfl rfl (by simp [undef]) rfl ?_)
      first
        | (refine op_want rfl rfl ?_
           refine op_v (v_len Try.underlying23 rfl) rfl ?_)
        | (refine op_skip rfl rfl (by simp [undef]) rfl ?_)
      first
        | (refine op_want rfl rfl ?_
           refine op_v (v_move rfl) rfl ?_)
        | (refine op_skip rfl rfl (by simp [undef]) rfl ?_)
      first
        | (refine op_want rfl rfl ?_
           refine op_v (v_len Try.underlying23 rfl) rfl ?_)
        | (refine op_skip rfl rfl (by simp [undef]) rfl ?_)
      first
        | (refine op_want rfl rfl ?_
           first | refine op_v (v_addb rfl rfl rfl (by omega)) rfl ?_ | refine op_v (v_add rfl rfl) rfl ?_)
        | (refine op_skip rfl rfl (by simp [undef]) rfl ?_)
      first
        | (refine op_want rfl rfl ?_
           first | refine op_v (v_cmptA rfl rfl rfl) rfl ?_ | refine op_v (v_cmpfA rfl rfl rfl) rfl ?_ | refine op_v (v_cmp rfl rfl rfl) rfl ?_)
        | (refine op_skip rfl rfl (by simp [undef]) rfl ?_)
      first | refine op_v (v_pickt rfl rfl) rfl ?_ | refine op_v (v_pickf rfl rfl) rfl ?_ | refine op_v (v_pickb rfl rfl rfl) rfl ?_
      refine ops_nil ?_
      refine post_next ?_
      refine code_cond_t rfl ?_
      refine code_seq ?_
      refine code_region ?_
      refine op_v (v_assign rfl) rfl ?_
      refine ops_nil ?_
      refine post_next ?_
      refine code_ret ?_
      refine post_ret_then ?_
      refine post_ret (rs := [.tmp 6]) rfl (List.Perm.refl _) (.cons (.tmp rfl) .nil) (List.nil_sublist _) ?_
      exact ⟨rfl, rfl⟩
  · have h14' : b13 = false := by simpa using h14
    subst h14'
    refine op_v (v_not rfl) rfl ?_
    refine op_v (v_move rfl) rfl ?_
    first
      | (refine op_want rfl rfl ?_
         refine op_v (v_move rfl) rfl ?_)
      | (refine op_skip rfl rfl (by simp [undef]) rfl ?_)
    first
      | (refine op_want rfl rfl ?_
         refine op_v (v_move rfl) rfl ?_)
      | (refine op_skip rfl rfl (by simp [undef]) rfl ?_)
    first
      | (refine op_want rfl rfl ?_
         refine op_call pl28 rfl rfl ((few8_does (hg.mono Imm.leA) (hb.mono Imm.leA))) Parts.none ?_
         rintro v18 I18 _ hI18 ⟨⟨b18, rfl, hb18⟩, rfl⟩)
      | (refine op_skip rfl rfl (by simp [undef]) rfl ?_)
    first
      | (refine op_want rfl rfl ?_
         refine op_v (v_not rfl) rfl ?_)
      | (refine op_skip rfl rfl (by simp [undef]) rfl ?_)
    first | refine op_v (v_pickt rfl rfl) rfl ?_ | refine op_v (v_pickf rfl rfl) rfl ?_ | refine op_v (v_pickb rfl rfl rfl) rfl ?_
    refine op_v (v_move rfl) rfl ?_
    first
      | (refine op_want rfl rfl ?_
         refine op_v (v_move rfl) rfl ?_)
      | (refine op_skip rfl rfl (by simp [undef]) rfl ?_)
    first
      | (refine op_want rfl rfl ?_
         refine op_v (v_len Try.underlying23 rfl) rfl ?_)
      | (refine op_skip rfl rfl (by simp [undef]) rfl ?_)
    first
      | (refine op_want rfl rfl ?_
         refine op_v (v_move rfl) rfl ?_)
      | (refine op_skip rfl rfl (by simp [undef]) rfl ?_)
    first
      | (refine op_want rfl rfl ?_
         refine op_v (v_len Try.underlying23 rfl) rfl ?_)
      | (refine op_skip rfl rfl (by simp [undef]) rfl ?_)
    first
      | (refine op_want rfl rfl ?_
         first | refine op_v (v_addb rfl rfl rfl (by omega)) rfl ?_ | refine op_v (v_add rfl rfl) rfl ?_)
      | (refine op_skip rfl rfl (by simp [undef]) rfl ?_)
    first
      | (refine op_want rfl rfl ?_
         first | refine op_v (v_cmptA rfl rfl rfl) rfl ?_ | refine op_v (v_cmpfA rfl rfl rfl) rfl ?_ | refine op_v (v_cmp rfl rfl rfl) rfl ?_)
      | (refine op_skip rfl rfl (by simp [undef]) rfl ?_)
    first | refine op_v (v_pickt rfl rfl) rfl ?_ | refine op_v (v_pickf rfl rfl) rfl ?_ | refine op_v (v_pickb rfl rfl rfl) rfl ?_
    refine ops_nil ?_
    refine post_next ?_
    refine code_cond_t rfl ?_
    refine code_seq ?_
    refine code_region ?_
    refine op_v (v_assign rfl) rfl ?_
    refine ops_nil ?_
    refine post_next ?_
    refine code_ret ?_
    refine post_ret_then ?_
    refine post_ret (rs := [.tmp 6]) rfl (List.Perm.refl _) (.cons (.tmp rfl) .nil) (List.nil_sublist _) ?_
    exact ⟨rfl, rfl⟩
end Go.Proofs.Ytegceppoioeeaaa
