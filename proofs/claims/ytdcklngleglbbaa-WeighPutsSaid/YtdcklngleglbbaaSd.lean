/- Walks: a term with all put; how heavy that is. -/
import Derived.Test.YtdcklngleglbbaaSc
import Derived.Test.YtdcklngleglbbaaGi
set_option linter.unusedVariables false
set_option linter.unusedSimpArgs false
namespace Go.Proofs.Ytdcklngleglbbaa
open Go Lg

def OutA (bs : List Bi) (t : T) (e : Int) (u : T) : Prop := (e = 0 ∧ chkB bs ∧ chkT t = 0 ∧ u = sbT bs t ∧ chkT u = 0) ∨ (e ≠ 0 ∧ u = zeroT)
theorem Apply_does {I : Imm} {vs v : Value} {bs : List Bi} {t : T} (hs : RepB I vs bs) (hv : RepT I v t) (hbs : ∀ b ∈ bs, b.2.size ≤ 500) (ht : t.size ≤ 500) :
    Does Try.prog 47 [vs, v] I [] (fun v I' δ' => (∃ e u r, v = .tuple #[r, .int .i64 e] ∧ RepT I' r u ∧ OutA bs t e u) ∧ δ' = []) := by
  obtain ⟨a0, c0, rfl, hr0⟩ := hv.shape
  obtain ⟨sa, sc, rfl⟩ := hs.shape
  have hsz : (sbT bs t).size ≤ 1000000000 := by have := sbT_size (m := 500) (by omega) hbs t; omega
  refine Does.intro Try.func47 rfl Try.ntmps47 rfl fun w0 => ?_
  refine code_seq ?_
  refine code_region ?_
  refine o_box rfl rfl rfl (fun b3 => ?_)
  refine o_alloc z24 rfl rfl (fun b4 => ?_)
  refine op_v (v_assign rfl) rfl ?_
  refine ops_nil ?_
  refine post_next ?_
  refine code_seq ?_
  refine code_seq ?_
  refine code_region ?_
  refine op_v (v_move rfl) rfl ?_
  refine op_call pl71 rfl rfl ((SCheck_does hs (fun b hb => by have := hbs b hb; omega))) Parts.none ?_
  rintro v7 I7 _ hI7 ⟨⟨e7, rfl, he7⟩, rfl⟩
  by_cases h8 : e7 ≠ 0
  · first | refine op_v (v_cmpt rfl rfl rfl (by first | omega | (simp; done) | (simp; omega))) rfl ?_ | refine op_v (v_cmpf rfl rfl rfl (by first | omega | (simp; done) | (simp; omega))) rfl ?_ | refine op_v (v_cmp rfl rfl rfl) rfl ?_
    refine op_v (v_move rfl) rfl ?_
    first
      | (refine op_want rfl rfl ?_
         refine op_v (v_load ty24 rfl (by repeat (first | exact Has.here | apply Has.there)) rfl) rfl ?_)
      | (refine op_skip rfl rfl (by simp [undef]) rfl ?_)
    first
      | (refine op_want rfl rfl ?_
         refine op_call pl43 rfl rfl ((TCheck_does (hv.mono (by repeat (first | exact Imm.le_refl _ | assumption | refine Imm.le_trans ?_ (by assumption)))) (by omega))) Parts.none ?_
         rintro v11 I11 _ hI11 ⟨rfl, rfl⟩)
      | (refine op_skip rfl rfl (by simp [undef]) rfl ?_)
    first
      | (refine op_want rfl rfl ?_
         first | refine op_v (v_cmpt rfl rfl rfl (by first | omega | (simp; done) | (simp; omega))) rfl ?_ | refine op_v (v_cmpf rfl rfl rfl (by first | omega | (simp; done) | (simp; omega))) rfl ?_ | refine op_v (v_cmp rfl rfl rfl) rfl ?_)
      | (refine op_skip rfl rfl (by simp [undef]) rfl ?_)
    first | refine op_v (v_pickt rfl rfl) rfl ?_ | refine op_v (v_pickf rfl rfl) rfl ?_ | refine op_v (v_pickb rfl rfl rfl) rfl ?_
    refine ops_nil ?_
    refine post_next ?_
    refine code_cond_t rfl ?_
    refine code_seq ?_
    refine code_region ?_
    refine op_v (v_build bl24 rfl rfl) rfl ?_
    refine o_store ty24 rfl rfl rfl rfl rfl (by repeat (first | exact Swap.here | apply Swap.there)) rfl ?_
    refine op_v (v_assign rfl) rfl ?_
    refine ops_nil ?_
    refine post_next ?_
    refine code_ret ?_
    refine post_ret_then ?_
    refine post_ret (rs := [.cell 4 24, .tmp 5]) rfl (List.Perm.refl _) (.cons (.cell rfl ty24 (by repeat (first | exact Has.here | apply Has.there)) rfl) (.cons (.tmp rfl) .nil)) (List.nil_sublist _) ?_
    exact ⟨⟨1, zeroT, _, rfl, zeroT_rep _, .inr ⟨by omega, rfl⟩⟩, rfl⟩
  · first | refine op_v (v_cmpt rfl rfl rfl (by first | omega | (simp; done) | (simp; omega))) rfl ?_ | refine op_v (v_cmpf rfl rfl rfl (by first | omega | (simp; done) | (simp; omega))) rfl ?_ | refine op_v (v_cmp rfl rfl rfl) rfl ?_
    refine op_v (v_move rfl) rfl ?_
    first
      | (refine op_want rfl rfl ?_
         refine op_v (v_load ty24 rfl (by repeat (first | exact Has.here | apply Has.there)) rfl) rfl ?_)
      | (refine op_skip rfl rfl (by simp [undef]) rfl ?_)
    first
      | (refine op_want rfl rfl ?_
         refine op_call pl43 rfl rfl ((TCheck_does (hv.mono (by repeat (first | exact Imm.le_refl _ | assumption | refine Imm.le_trans ?_ (by assumption)))) (by omega))) Parts.none ?_
         rintro v11 I11 _ hI11 ⟨rfl, rfl⟩)
      | (refine op_skip rfl rfl (by simp [undef]) rfl ?_)
    by_cases h12 : chkT t ≠ 0
    · first
        | (refine op_want rfl rfl ?_
           first | refine op_v (v_cmpt rfl rfl rfl (by first | omega | (simp; done) | (simp; omega))) rfl ?_ | refine op_v (v_cmpf rfl rfl rfl (by first | omega | (simp; done) | (simp; omega))) rfl ?_ | refine op_v (v_cmp rfl rfl rfl) rfl ?_)
        | (refine op_skip rfl rfl (by simp [undef]) rfl ?_)
      first | refine op_v (v_pickt rfl rfl) rfl ?_ | refine op_v (v_pickf rfl rfl) rfl ?_ | refine op_v (v_pickb rfl rfl rfl) rfl ?_
      refine ops_nil ?_
      refine post_next ?_
      refine code_cond_t rfl ?_
      refine code_seq ?_
      refine code_region ?_
      refine op_v (v_build bl24 rfl rfl) rfl ?_
      refine o_store ty24 rfl rfl rfl rfl rfl (by repeat (first | exact Swap.here | apply Swap.there)) rfl ?_
      refine op_v (v_assign rfl) rfl ?_
      refine ops_nil ?_
      refine post_next ?_
      refine code_ret ?_
      refine post_ret_then ?_
      refine post_ret (rs := [.cell 4 24, .tmp 5]) rfl (List.Perm.refl _) (.cons (.cell rfl ty24 (by repeat (first | exact Has.here | apply Has.there)) rfl) (.cons (.tmp rfl) .nil)) (List.nil_sublist _) ?_
      exact ⟨⟨1, zeroT, _, rfl, zeroT_rep _, .inr ⟨by omega, rfl⟩⟩, rfl⟩
    · first
        | (refine op_want rfl rfl ?_
           first | refine op_v (v_cmpt rfl rfl rfl (by first | omega | (simp; done) | (simp; omega))) rfl ?_ | refine op_v (v_cmpf rfl rfl rfl (by first | omega | (simp; done) | (simp; omega))) rfl ?_ | refine op_v (v_cmp rfl rfl rfl) rfl ?_)
        | (refine op_skip rfl rfl (by simp [undef]) rfl ?_)
      first | refine op_v (v_pickt rfl rfl) rfl ?_ | refine op_v (v_pickf rfl rfl) rfl ?_ | refine op_v (v_pickb rfl rfl rfl) rfl ?_
      refine ops_nil ?_
      refine post_next ?_
      refine code_cond_f rfl ?_
      refine code_skip ?_
      refine post_next ?_
      refine code_seq ?_
      refine code_draw (.fl 0 (.fl 1 (.ef 2 (.fl 3 (.ef 4 (.ef 5 (.fl 6 (.fl 7 (.ef 8 (.ef 9 .done)))))))))) (fun _ => _) mixed (by kernel_rfl) (by kernel_rfl) (fun _ => (List.Sublist.refl _)) ?_
      refine e_float rfl rfl (fun hs_ => PF.mk rfl (v_load ty24 rfl (by repeat (first | exact Has.here | apply Has.there)) rfl) hs_) (by repeat (first | exact Imm.le_refl _ | assumption | refine Imm.le_trans ?_ (by assumption))) (by intro x hx; first | exact hx | exact List.mem_cons_of_mem _ hx | exact List.mem_append_right _ hx | (simp only [List.mem_cons, List.not_mem_nil, or_false] at hx; repeat' (first | (subst hx; simp [cellsL]; done) | rcases hx with hx | hx)) | simp_all) ?_
      refine e_float rfl rfl (fun hs_ => PF.mk rfl (v_move rfl) hs_) (by repeat (first | exact Imm.le_refl _ | assumption | refine Imm.le_trans ?_ (by assumption))) (by intro x hx; first | exact hx | exact List.mem_cons_of_mem _ hx | exact List.mem_append_right _ hx | (simp only [List.mem_cons, List.not_mem_nil, or_false] at hx; repeat' (first | (subst hx; simp [cellsL]; done) | rcases hx with hx | hx)) | simp_all) ?_
      refine e_eff rfl (by intro cs b hc; cases hc) (by intro c hc; cases hc) ?_
      refine op_call pl74 rfl rfl ((open_does (hs.mono (by repeat (first | exact Imm.le_refl _ | assumption | refine Imm.le_trans ?_ (by assumption)))))) Parts.none ?_
      rintro v17 I17 _ hI17 ⟨b17, xs17, rfl, rfl, hM⟩
      refine ops_nil ?_
      refine e_next rfl (side_all (by repeat (first | exact Imm.le_refl _ | assumption | refine Imm.le_trans ?_ (by assumption))) (fun _ => (by intro x hx; first | exact hx | exact List.mem_cons_of_mem _ hx | exact List.mem_append_right _ hx | (simp only [List.mem_cons, List.not_mem_nil, or_false] at hx; repeat' (first | (subst hx; simp [cellsL]; done) | rcases hx with hx | hx)) | simp_all))) ?_
      refine e_float rfl rfl (fun hs_ => PF.mk rfl (v_makeFunc rfl rfl) hs_) (by repeat (first | exact Imm.le_refl _ | assumption | refine Imm.le_trans ?_ (by assumption))) (by intro x hx; first | exact hx | exact List.mem_cons_of_mem _ hx | exact List.mem_append_right _ hx | (simp only [List.mem_cons, List.not_mem_nil, or_false] at hx; repeat' (first | (subst hx; simp [cellsL]; done) | rcases hx with hx | hx)) | simp_all) ?_
      refine e_eff rfl (by intro cs b hc; cases hc) (by intro c hc; cases hc) ?_
      refine op_call pl73 rfl rfl ((rebuild_does (I0 := I17) (fun J v u hJ hu => FDoes.ofFirst (firsts := [_]) pl75 (of_does hu (hM.mono hJ))) t.size t (Nat.le_refl _) _ _ (Imm.le_refl _) (hv.mono (by repeat (first | exact Imm.le_refl _ | assumption | refine Imm.le_trans ?_ (by assumption)))))) (Parts.one Del.here) ?_
      rintro v19 I19 _ hI19 ⟨hv19, rfl⟩
      change RepT I19 v19 (sbT bs t) at hv19
      refine ops_nil ?_
      refine e_next rfl (side_nil (by kernel_rfl)) ?_
      refine e_eff rfl (by intro cs b hc; cases hc) (by intro c hc; cases hc) ?_
      refine op_call pl72 rfl rfl ((end_does hv19 hsz)) Parts.none ?_
      rintro v20 I20 _ hI20 ⟨⟨u20, rfl, hv20⟩, rfl⟩
      obtain ⟨a20, c20, rfl, _⟩ := hv20.shape
      refine ops_nil ?_
      refine e_next rfl (side_nil (by kernel_rfl)) ?_
      refine e_float rfl rfl (fun hs_ => PF.mk rfl (v_extract rfl rfl) hs_) (by repeat (first | exact Imm.le_refl _ | assumption | refine Imm.le_trans ?_ (by assumption))) (by intro x hx; first | exact hx | exact List.mem_cons_of_mem _ hx | exact List.mem_append_right _ hx | (simp only [List.mem_cons, List.not_mem_nil, or_false] at hx; repeat' (first | (subst hx; simp [cellsL]; done) | rcases hx with hx | hx)) | simp_all) ?_
      refine e_float rfl rfl (fun hs_ => PF.mk rfl (v_extract rfl rfl) hs_) (by repeat (first | exact Imm.le_refl _ | assumption | refine Imm.le_trans ?_ (by assumption))) (by intro x hx; first | exact hx | exact List.mem_cons_of_mem _ hx | exact List.mem_append_right _ hx | (simp only [List.mem_cons, List.not_mem_nil, or_false] at hx; repeat' (first | (subst hx; simp [cellsL]; done) | rcases hx with hx | hx)) | simp_all) ?_
      refine e_eff rfl (by intro cs b hc; cases hc) (by intro c hc; cases hc) ?_
      refine o_store ty24 rfl rfl rfl rfl rfl (by repeat (first | exact Swap.here | apply Swap.there)) rfl ?_
      refine ops_nil ?_
      refine e_next_ (side_nil (by kernel_rfl)) ?_
      refine e_eff rfl (by intro cs b hc; cases hc) (by intro c hc; cases hc) ?_
      refine op_v (v_assign rfl) rfl ?_
      refine ops_nil ?_
      refine e_next rfl (side_nil (by kernel_rfl)) ?_
      refine e_done ?_
      refine post_next ?_
      refine code_ret ?_
      refine post_ret (rs := [.cell 4 24, .tmp 5]) rfl (List.Perm.refl _) (.cons (.cell rfl ty24 (by repeat (first | exact Has.here | apply Has.there)) rfl) (.cons (.tmp rfl) .nil)) (List.nil_sublist _) ?_
      have he0 : e7 = 0 := by omega
      have hcb : chkB bs := by rcases he7 with h | h; exact h.2; omega
      refine ⟨⟨chkT (sbT bs t), _, _, rfl, hv20, ?_⟩, rfl⟩
      by_cases hq : chkT (sbT bs t) = 0
      · rw [if_pos hq]; exact .inl ⟨hq, hcb, by omega, rfl, hq⟩
      · rw [if_neg hq]; exact .inr ⟨hq, rfl⟩

theorem FewB_does {I : Imm} {v : Value} {bs : List Bi} (hv : RepB I v bs) :
    Does Try.prog 46 [v] I [] (fun v I' δ' => (∃ b, v = .bool b ∧ (b = true → ∀ x ∈ bs, x.2.size ≤ 500)) ∧ δ' = []) := by
  obtain ⟨ad, c, rfl⟩ := hv.shape
  obtain ⟨_, hc, hb, hr, ss, hat, hsub⟩ := hv.open
  refine Does.intro Try.func46 rfl Try.ntmps46 rfl fun w0 => ?_
  refine code_seq ?_
  refine code_region ?_
  refine op_v (v_assign rfl) rfl ?_
  refine ops_nil ?_
  refine post_next ?_
  refine code_seq ?_
  refine code_region ?_
  refine op_v (v_assign rfl) rfl ?_
  refine ops_nil ?_
  refine post_next ?_
  refine code_seq ?_
  refine code_seq ?_
  refine code_region ?_
  refine op_v (v_assign rfl) rfl ?_
  refine ops_nil ?_
  refine post_next ?_
  refine code_block ?_
  refine code_loop (fun m σ' I' δ' => ∃ (k n : Nat), m = bs.length - k ∧ k ≤ bs.length ∧ σ' = [(0, .slice ad bs.length c), (3, .int .i64 n), (4, .int .i64 k)] ∧ I.le I' ∧ δ' = [] ∧ n ≤ 2000 ∧ (n ≤ 500 → ∀ i (h : i < bs.length), i < k → bs[i].2.size ≤ 500)) bs.length [(0, .slice ad bs.length c), (3, .int .i64 (0 : Nat)), (4, .int .i64 (0 : Nat))] ⟨0, 0, rfl, Nat.zero_le _, rfl, Imm.le_refl _, rfl, by omega, fun _ i _ h => by omega⟩ ⟨rfl, rfl, rfl, trivial⟩ ?_
  rintro m _ I0 _ ⟨k, n, rfl, hk, rfl, hI0, rfl, hn, hp⟩
  refine code_seq ?_
  refine code_seq ?_
  refine code_region ?_
  refine op_v (v_move rfl) rfl ?_
  refine op_v (v_move rfl) rfl ?_
  by_cases h7 : k < bs.length
  · have hs1 := (hat k h7).isSome
    refine op_v (v_len Try.underlying59 rfl) rfl ?_
    first | refine op_v (v_cmpt rfl rfl rfl (by first | omega | (simp; done) | (simp; omega))) rfl ?_ | refine op_v (v_cmpf rfl rfl rfl (by first | omega | (simp; done) | (simp; omega))) rfl ?_ | refine op_v (v_cmp rfl rfl rfl) rfl ?_
    refine op_v (v_move rfl) rfl ?_
    first
      | (refine op_want rfl rfl ?_
         refine op_v (v_move rfl) rfl ?_)
      | (refine op_skip rfl rfl (by simp [undef]) rfl ?_)
    first
      | (refine op_want rfl rfl ?_
         refine op_v (v_len Try.underlying59 rfl) rfl ?_)
      | (refine op_skip rfl rfl (by simp [undef]) rfl ?_)
    by_cases h12 : bs.length ≤ 10
    · first
        | (refine op_want rfl rfl ?_
           first | refine op_v (v_cmpt rfl rfl rfl (by first | omega | (simp; done) | (simp; omega))) rfl ?_ | refine op_v (v_cmpf rfl rfl rfl (by first | omega | (simp; done) | (simp; omega))) rfl ?_ | refine op_v (v_cmp rfl rfl rfl) rfl ?_)
        | (refine op_skip rfl rfl (by simp [undef]) rfl ?_)
      first | refine op_v (v_pickt rfl rfl) rfl ?_ | refine op_v (v_pickf rfl rfl) rfl ?_ | refine op_v (v_pickb rfl rfl rfl) rfl ?_
      refine op_v (v_move rfl) rfl ?_
      first
        | (refine op_want rfl rfl ?_
           refine op_v (v_move rfl) rfl ?_)
        | (refine op_skip rfl rfl (by simp [undef]) rfl ?_)
      by_cases h16 : n ≤ 500
      · first
          | (refine op_want rfl rfl ?_
             first | refine op_v (v_cmpt rfl rfl rfl (by first | omega | (simp; done) | (simp; omega))) rfl ?_ | refine op_v (v_cmpf rfl rfl rfl (by first | omega | (simp; done) | (simp; omega))) rfl ?_ | refine op_v (v_cmp rfl rfl rfl) rfl ?_)
          | (refine op_skip rfl rfl (by simp [undef]) rfl ?_)
        first | refine op_v (v_pickt rfl rfl) rfl ?_ | refine op_v (v_pickf rfl rfl) rfl ?_ | refine op_v (v_pickb rfl rfl rfl) rfl ?_
        refine ops_nil ?_
        refine post_next ?_
        refine code_cond_t rfl ?_
        refine code_skip ?_
        refine post_next ?_
        refine code_seq ?_
        refine code_block ?_
        refine code_region ?_
        refine op_v (v_move rfl) rfl ?_
        refine op_v (v_move rfl) rfl ?_
        refine op_v (v_move rfl) rfl ?_
        first | refine op_v (v_index Try.underlying59 sz88 rfl rfl (by omega) (by assumption)) rfl ?_ | refine op_v (v_indexI Try.underlying59 sz88 rfl rfl (by first | omega | (simp; done) | (simp; omega)) (by first | omega | (simp; done) | (simp; omega)) (by assumption)) rfl ?_
        first | refine op_v (v_fieldB 1 Try.underlying88 rfl rfl fz24 rfl) rfl ?_ | refine op_v (v_fieldI 1 Try.underlying88 rfl rfl fz24 rfl (by assumption)) rfl ?_ | refine op_v (v_field Try.underlying88 rfl fz24 rfl rfl) rfl ?_
        first | refine op_v (v_loadI0 ty24 ((hat k h7).mono hI0) rfl rfl rfl) rfl ?_ | refine op_v (v_loadI ty24 ((hat k h7).mono hI0) rfl rfl rfl) rfl ?_
        refine op_call pl50 rfl rfl ((Count_does _ _ (Nat.le_refl _) 500 (by omega) _ _ ((hsub k h7).mono hI0))) Parts.none ?_
        rintro v26 I26 _ hI26 ⟨rfl, rfl⟩
        first | refine op_v (v_addb rfl rfl rfl (by omega)) rfl ?_ | refine op_v (v_add rfl rfl) rfl ?_
        refine op_v (v_assign rfl) rfl ?_
        refine ops_nil ?_
        refine post_out ?_
        refine post_next ?_
        refine code_region ?_
        refine op_v (v_move rfl) rfl ?_
        first | refine op_v (v_addb rfl rfl rfl (by omega)) rfl ?_ | refine op_v (v_add rfl rfl) rfl ?_
        refine op_v (v_assign rfl) rfl ?_
        refine ops_nil ?_
        refine post_again (bs.length - (k + 1)) [(0, .slice ad bs.length c), (3, .int .i64 ((n : Int) + ((min bs[k].2.size (500 + 1) : Nat) : Int))), (4, .int .i64 (k + 1 : Nat))] (by omega) ⟨k + 1, n + min bs[k].2.size (500 + 1), rfl, h7, by rw [show ((n + min bs[k].2.size (500 + 1) : Nat) : Int) = (n : Int) + ((min bs[k].2.size (500 + 1) : Nat) : Int) from Int.natCast_add _ _], (by repeat (first | exact Imm.le_refl _ | assumption | refine Imm.le_trans ?_ (by assumption))), rfl, by omega, fun hq i h hi => ?_⟩ ⟨rfl, rfl, rfl, trivial⟩
        rcases Nat.lt_or_ge i k with hik | hik
        · exact hp (by omega) i h hik
        have hik2 : i = k := by omega
        subst hik2
        omega
      · first
          | (refine op_want rfl rfl ?_
             first | refine op_v (v_cmpt rfl rfl rfl (by first | omega | (simp; done) | (simp; omega))) rfl ?_ | refine op_v (v_cmpf rfl rfl rfl (by first | omega | (simp; done) | (simp; omega))) rfl ?_ | refine op_v (v_cmp rfl rfl rfl) rfl ?_)
          | (refine op_skip rfl rfl (by simp [undef]) rfl ?_)
        first | refine op_v (v_pickt rfl rfl) rfl ?_ | refine op_v (v_pickf rfl rfl) rfl ?_ | refine op_v (v_pickb rfl rfl rfl) rfl ?_
        refine ops_nil ?_
        refine post_next ?_
        refine code_cond_f rfl ?_
        refine code_exit ?_
        refine post_exit_then ?_
        refine post_exit_then ?_
        refine post_exit ?_
        refine post_next ?_
        refine code_seq ?_
        refine code_region ?_
        refine op_v (v_move rfl) rfl ?_
        refine op_v (v_len Try.underlying59 rfl) rfl ?_
        first | refine op_v (v_cmpt rfl rfl rfl (by first | omega | (simp; done) | (simp; omega))) rfl ?_ | refine op_v (v_cmpf rfl rfl rfl (by first | omega | (simp; done) | (simp; omega))) rfl ?_ | refine op_v (v_cmp rfl rfl rfl) rfl ?_
        refine op_v (v_move rfl) rfl ?_
        first
          | (refine op_want rfl rfl ?_
             refine op_v (v_move rfl) rfl ?_)
          | (refine op_skip rfl rfl (by simp [undef]) rfl ?_)
        first
          | (refine op_want rfl rfl ?_
             first | refine op_v (v_cmpt rfl rfl rfl (by first | omega | (simp; done) | (simp; omega))) rfl ?_ | refine op_v (v_cmpf rfl rfl rfl (by first | omega | (simp; done) | (simp; omega))) rfl ?_ | refine op_v (v_cmp rfl rfl rfl) rfl ?_)
          | (refine op_skip rfl rfl (by simp [undef]) rfl ?_)
        first | refine op_v (v_pickt rfl rfl) rfl ?_ | refine op_v (v_pickf rfl rfl) rfl ?_ | refine op_v (v_pickb rfl rfl rfl) rfl ?_
        refine op_v (v_assign rfl) rfl ?_
        refine ops_nil ?_
        refine post_next ?_
        refine code_ret ?_
        refine post_ret (rs := [.tmp 2]) rfl (List.Perm.refl _) (.cons (.tmp rfl) .nil) (List.nil_sublist _) ?_
        exact ⟨⟨false, rfl, fun h => by cases h⟩, rfl⟩
    · first
        | (refine op_want rfl rfl ?_
           first | refine op_v (v_cmpt rfl rfl rfl (by first | omega | (simp; done) | (simp; omega))) rfl ?_ | refine op_v (v_cmpf rfl rfl rfl (by first | omega | (simp; done) | (simp; omega))) rfl ?_ | refine op_v (v_cmp rfl rfl rfl) rfl ?_)
        | (refine op_skip rfl rfl (by simp [undef]) rfl ?_)
      first | refine op_v (v_pickt rfl rfl) rfl ?_ | refine op_v (v_pickf rfl rfl) rfl ?_ | refine op_v (v_pickb rfl rfl rfl) rfl ?_
      refine op_v (v_move rfl) rfl ?_
      first
        | (refine op_want rfl rfl ?_
           refine op_v (v_move rfl) rfl ?_)
        | (refine op_skip rfl rfl (by simp [undef]) rfl ?_)
      first
        | (refine op_want rfl rfl ?_
           first | refine op_v (v_cmpt rfl rfl rfl (by first | omega | (simp; done) | (simp; omega))) rfl ?_ | refine op_v (v_cmpf rfl rfl rfl (by first | omega | (simp; done) | (simp; omega))) rfl ?_ | refine op_v (v_cmp rfl rfl rfl) rfl ?_)
        | (refine op_skip rfl rfl (by simp [undef]) rfl ?_)
      first | refine op_v (v_pickt rfl rfl) rfl ?_ | refine op_v (v_pickf rfl rfl) rfl ?_ | refine op_v (v_pickb rfl rfl rfl) rfl ?_
      refine ops_nil ?_
      refine post_next ?_
      refine code_cond_f rfl ?_
      refine code_exit ?_
      refine post_exit_then ?_
      refine post_exit_then ?_
      refine post_exit ?_
      refine post_next ?_
      refine code_seq ?_
      refine code_region ?_
      refine op_v (v_move rfl) rfl ?_
      refine op_v (v_len Try.underlying59 rfl) rfl ?_
      first | refine op_v (v_cmpt rfl rfl rfl (by first | omega | (simp; done) | (simp; omega))) rfl ?_ | refine op_v (v_cmpf rfl rfl rfl (by first | omega | (simp; done) | (simp; omega))) rfl ?_ | refine op_v (v_cmp rfl rfl rfl) rfl ?_
      refine op_v (v_move rfl) rfl ?_
      first
        | (refine op_want rfl rfl ?_
           refine op_v (v_move rfl) rfl ?_)
        | (refine op_skip rfl rfl (by simp [undef]) rfl ?_)
      first
        | (refine op_want rfl rfl ?_
           first | refine op_v (v_cmpt rfl rfl rfl (by first | omega | (simp; done) | (simp; omega))) rfl ?_ | refine op_v (v_cmpf rfl rfl rfl (by first | omega | (simp; done) | (simp; omega))) rfl ?_ | refine op_v (v_cmp rfl rfl rfl) rfl ?_)
        | (refine op_skip rfl rfl (by simp [undef]) rfl ?_)
      first | refine op_v (v_pickt rfl rfl) rfl ?_ | refine op_v (v_pickf rfl rfl) rfl ?_ | refine op_v (v_pickb rfl rfl rfl) rfl ?_
      refine op_v (v_assign rfl) rfl ?_
      refine ops_nil ?_
      refine post_next ?_
      refine code_ret ?_
      refine post_ret (rs := [.tmp 2]) rfl (List.Perm.refl _) (.cons (.tmp rfl) .nil) (List.nil_sublist _) ?_
      exact ⟨⟨false, rfl, fun h => by cases h⟩, rfl⟩
  · refine op_v (v_len Try.underlying59 rfl) rfl ?_
    first | refine op_v (v_cmpt rfl rfl rfl (by first | omega | (simp; done) | (simp; omega))) rfl ?_ | refine op_v (v_cmpf rfl rfl rfl (by first | omega | (simp; done) | (simp; omega))) rfl ?_ | refine op_v (v_cmp rfl rfl rfl) rfl ?_
    refine op_v (v_move rfl) rfl ?_
    first
      | (refine op_want rfl rfl ?_
         refine op_v (v_move rfl) rfl ?_)
      | (refine op_skip rfl rfl (by simp [undef]) rfl ?_)
    first
      | (refine op_want rfl rfl ?_
         refine op_v (v_len Try.underlying59 rfl) rfl ?_)
      | (refine op_skip rfl rfl (by simp [undef]) rfl ?_)
    first
      | (refine op_want rfl rfl ?_
         first | refine op_v (v_cmpt rfl rfl rfl (by first | omega | (simp; done) | (simp; omega))) rfl ?_ | refine op_v (v_cmpf rfl rfl rfl (by first | omega | (simp; done) | (simp; omega))) rfl ?_ | refine op_v (v_cmp rfl rfl rfl) rfl ?_)
      | (refine op_skip rfl rfl (by simp [undef]) rfl ?_)
    first | refine op_v (v_pickt rfl rfl) rfl ?_ | refine op_v (v_pickf rfl rfl) rfl ?_ | refine op_v (v_pickb rfl rfl rfl) rfl ?_
    refine op_v (v_move rfl) rfl ?_
    first
      | (refine op_want rfl rfl ?_
         refine op_v (v_move rfl) rfl ?_)
      | (refine op_skip rfl rfl (by simp [undef]) rfl ?_)
    first
      | (refine op_want rfl rfl ?_
         first | refine op_v (v_cmpt rfl rfl rfl (by first | omega | (simp; done) | (simp; omega))) rfl ?_ | refine op_v (v_cmpf rfl rfl rfl (by first | omega | (simp; done) | (simp; omega))) rfl ?_ | refine op_v (v_cmp rfl rfl rfl) rfl ?_)
      | (refine op_skip rfl rfl (by simp [undef]) rfl ?_)
    first | refine op_v (v_pickt rfl rfl) rfl ?_ | refine op_v (v_pickf rfl rfl) rfl ?_ | refine op_v (v_pickb rfl rfl rfl) rfl ?_
    refine ops_nil ?_
    refine post_next ?_
    refine code_cond_f rfl ?_
    refine code_exit ?_
    refine post_exit_then ?_
    refine post_exit_then ?_
    refine post_exit ?_
    refine post_next ?_
    refine code_seq ?_
    refine code_region ?_
    refine op_v (v_move rfl) rfl ?_
    refine op_v (v_len Try.underlying59 rfl) rfl ?_
    by_cases h30 : bs.length ≤ 10
    · first | refine op_v (v_cmpt rfl rfl rfl (by first | omega | (simp; done) | (simp; omega))) rfl ?_ | refine op_v (v_cmpf rfl rfl rfl (by first | omega | (simp; done) | (simp; omega))) rfl ?_ | refine op_v (v_cmp rfl rfl rfl) rfl ?_
      refine op_v (v_move rfl) rfl ?_
      first
        | (refine op_want rfl rfl ?_
           refine op_v (v_move rfl) rfl ?_)
        | (refine op_skip rfl rfl (by simp [undef]) rfl ?_)
      by_cases h33 : n ≤ 500
      · first
          | (refine op_want rfl rfl ?_
             first | refine op_v (v_cmpt rfl rfl rfl (by first | omega | (simp; done) | (simp; omega))) rfl ?_ | refine op_v (v_cmpf rfl rfl rfl (by first | omega | (simp; done) | (simp; omega))) rfl ?_ | refine op_v (v_cmp rfl rfl rfl) rfl ?_)
          | (refine op_skip rfl rfl (by simp [undef]) rfl ?_)
        first | refine op_v (v_pickt rfl rfl) rfl ?_ | refine op_v (v_pickf rfl rfl) rfl ?_ | refine op_v (v_pickb rfl rfl rfl) rfl ?_
        refine op_v (v_assign rfl) rfl ?_
        refine ops_nil ?_
        refine post_next ?_
        refine code_ret ?_
        refine post_ret (rs := [.tmp 2]) rfl (List.Perm.refl _) (.cons (.tmp rfl) .nil) (List.nil_sublist _) ?_
        exact ⟨⟨true, rfl, fun _ x hx => by obtain ⟨i, hi, rfl⟩ := List.getElem_of_mem hx; exact hp h33 i hi (by omega)⟩, rfl⟩
      · first
          | (refine op_want rfl rfl ?_
             first | refine op_v (v_cmpt rfl rfl rfl (by first | omega | (simp; done) | (simp; omega))) rfl ?_ | refine op_v (v_cmpf rfl rfl rfl (by first | omega | (simp; done) | (simp; omega))) rfl ?_ | refine op_v (v_cmp rfl rfl rfl) rfl ?_)
          | (refine op_skip rfl rfl (by simp [undef]) rfl ?_)
        first | refine op_v (v_pickt rfl rfl) rfl ?_ | refine op_v (v_pickf rfl rfl) rfl ?_ | refine op_v (v_pickb rfl rfl rfl) rfl ?_
        refine op_v (v_assign rfl) rfl ?_
        refine ops_nil ?_
        refine post_next ?_
        refine code_ret ?_
        refine post_ret (rs := [.tmp 2]) rfl (List.Perm.refl _) (.cons (.tmp rfl) .nil) (List.nil_sublist _) ?_
        exact ⟨⟨false, rfl, fun h => by cases h⟩, rfl⟩
    · first | refine op_v (v_cmpt rfl rfl rfl (by first | omega | (simp; done) | (simp; omega))) rfl ?_ | refine op_v (v_cmpf rfl rfl rfl (by first | omega | (simp; done) | (simp; omega))) rfl ?_ | refine op_v (v_cmp rfl rfl rfl) rfl ?_
      refine op_v (v_move rfl) rfl ?_
      first
        | (refine op_want rfl rfl ?_
           refine op_v (v_move rfl) rfl ?_)
        | (refine op_skip rfl rfl (by simp [undef]) rfl ?_)
      first
        | (refine op_want rfl rfl ?_
           first | refine op_v (v_cmpt rfl rfl rfl (by first | omega | (simp; done) | (simp; omega))) rfl ?_ | refine op_v (v_cmpf rfl rfl rfl (by first | omega | (simp; done) | (simp; omega))) rfl ?_ | refine op_v (v_cmp rfl rfl rfl) rfl ?_)
        | (refine op_skip rfl rfl (by simp [undef]) rfl ?_)
      first | refine op_v (v_pickt rfl rfl) rfl ?_ | refine op_v (v_pickf rfl rfl) rfl ?_ | refine op_v (v_pickb rfl rfl rfl) rfl ?_
      refine op_v (v_assign rfl) rfl ?_
      refine ops_nil ?_
      refine post_next ?_
      refine code_ret ?_
      refine post_ret (rs := [.tmp 2]) rfl (List.Perm.refl _) (.cons (.tmp rfl) .nil) (List.nil_sublist _) ?_
      exact ⟨⟨false, rfl, fun h => by cases h⟩, rfl⟩

/-! ### the plain law -/
mutual
theorem snd_T : ∀ (d : Nat) (b : Bool) (t : T), (partsT d t).map (·.2) = (visT b t).map (·.2)
  | d, b, .mk h us => by simp only [partsT, visT, List.map_cons, snd_L (d + 1) us]
theorem snd_L : ∀ (d : Nat) (us : List T), (partsL d us).map (·.2) = (visL us).map (·.2)
  | _, [] => rfl
  | d, t :: r => by simp only [partsL, visL, List.map_append, snd_T d false t, snd_L d r]
end
theorem chk_vis {t : T} (h : chkT t = 0) : ∀ x ∈ visT true t, (x.2.head < 0 → x.2.args = []) ∧ -256 ≤ x.2.head := by
  intro x hx
  have h1 : (partsT 1 t).any badN = false := by
    unfold chkT at h
    split at h
    · cases h
    · split at h
      · cases h
      · split at h
        · cases h
        · rename_i hq; exact Bool.eq_false_iff.2 hq
  have h2 : x.2 ∈ (partsT 1 t).map (·.2) := by rw [snd_T 1 true t]; exact List.mem_map_of_mem hx
  obtain ⟨y, hy, hyx⟩ := List.mem_map.1 h2
  rw [List.any_eq_false] at h1
  have h3 := h1 y hy
  simp only [badN, Bool.or_eq_true, Bool.and_eq_true, decide_eq_true_eq, not_or, not_and, hyx] at h3
  obtain ⟨⟨⟨h4, h5⟩, _⟩, _⟩ := h3
  refine ⟨fun hn => List.eq_nil_of_length_eq_zero (by have := h4 hn; omega), by omega⟩
mutual
theorem wgt_rb (gs : List Sy) (f : T → T) : ∀ (t : T), (∀ x ∈ visT true t, x.2.head < 0 → x.2.args = []) → wgtG gs (rbT f t) = ((visT true t).map fun x => if x.2.head < 0 then wgtG gs (f (.mk x.2.head [])) else wB gs x.2.head).sum
  | .mk h us, hx => by
    have h0 := hx (true, .mk h us) (by simp [visT])
    have e0 : (T.mk h us).head = h := rfl
    have e1 : (T.mk h us).args = us := rfl
    simp only [e0, e1] at h0
    simp only [rbT, visT, List.map_cons, List.sum_cons, e0]
    by_cases hn : h < 0
    · have := h0 hn
      subst this
      rw [if_pos hn, if_pos hn]; simp [visL]
    · rw [if_neg hn, if_neg hn, wgtG_eq]
      show wB gs h + sumV gs (visL (rbL f us)) = _
      rw [wgt_rbL gs f us (fun x hx' => hx x (by simp [visT, hx']))]
theorem wgt_rbL (gs : List Sy) (f : T → T) : ∀ (us : List T), (∀ x ∈ visL us, x.2.head < 0 → x.2.args = []) → sumV gs (visL (rbL f us)) = ((visL us).map fun x => if x.2.head < 0 then wgtG gs (f (.mk x.2.head [])) else wB gs x.2.head).sum
  | [], _ => by simp [rbL, visL, sumV]
  | t :: r, hx => by
    simp only [rbL, visL, sumV_app, sumV_T, List.map_append, List.sum_append]
    rw [wgt_rbL gs f r (fun x hx' => hx x (by simp [visL, hx']))]
    have e : ∀ x ∈ visT true t, x.2.head < 0 → x.2.args = [] := fun x hx' => by
      rw [visT_eq] at hx'
      rcases List.mem_cons.1 hx' with rfl | hx'
      · exact hx (false, t) (by simp [visL, visT_eq])
      · exact hx x (by simp [visL, visT_eq, hx'])
    rw [wgt_rb gs f t e]
    congr 1
    rw [visT_eq true, visT_eq false]; rfl
end
theorem vis_ok {gs : List Sy} (f : T → T) : ∀ (n : Nat) (t : T), t.size ≤ n → ∀ b, (∀ x ∈ visT b t, x.2.head < 0 → x.2.args = []) → OkG gs (rbT f t) → ∀ x ∈ visT b t, x.2.head < 0 → OkG gs (f x.2) := by
  intro n
  induction n with
  | zero => intro t h; have := t.size_pos; omega
  | succ n ih =>
    intro t hn b hx hO x hxm hneg
    obtain ⟨h, us⟩ := t
    rw [visT_eq] at hxm
    rcases List.mem_cons.1 hxm with rfl | hxm
    · have e : rbT f (.mk h us) = f (.mk h us) := by simp only [rbT]; rw [if_pos (show h < 0 from hneg)]
      rw [e] at hO; exact hO
    · have hh : ¬ h < 0 := fun hn => by
        have := hx (b, .mk h us) (by simp [visT]) hn
        change us = [] at this
        change x ∈ visL us at hxm
        subst this
        simp [visL] at hxm
      have e : rbT f (.mk h us) = .mk h (rbL f us) := by simp only [rbT]; rw [if_neg hh]
      rw [e] at hO
      change x ∈ visL us at hxm
      have key : ∀ (l : List T), x ∈ visL l → ∃ i, ∃ hi : i < l.length, x ∈ visT false l[i] := by
        intro l
        induction l with
        | nil => intro hm; simp [visL] at hm
        | cons a r ihr =>
          intro hm
          simp only [visL, List.mem_append] at hm
          rcases hm with hm | hm
          · exact ⟨0, by simp, hm⟩
          · obtain ⟨i, hi, h3⟩ := ihr hm
            exact ⟨i + 1, by simpa using hi, by simpa using h3⟩
      obtain ⟨i, hi, hxi⟩ := key us hxm
      have hch := (hO.child i (by show i < (rbL f us).length; rw [rbL_len]; exact hi)).1
      have e2 : (rbL f us)[i]'(by rw [rbL_len]; exact hi) = rbT f us[i] := by simp [rbL_map]
      change OkG gs ((rbL f us)[i]'(by rw [rbL_len]; exact hi)) at hch
      rw [e2] at hch
      have hs1 := sizeL_mem us i hi
      have hs2 : (T.mk h us).size = 1 + sizeL us := by simp [T.size]
      refine ih us[i] (by omega) false (fun y hy => hx y ?_) hch x hxi hneg
      rw [visT_eq]
      refine List.mem_cons_of_mem _ ?_
      show y ∈ visL us
      rw [visL_split us i hi]
      exact List.mem_append_right _ (List.mem_append_left _ hy)

def accF (F : Int → Int) (l : List Int) : Nat → Int
  | 0 => 0
  | n + 1 => accF F l n + ((l.count (-1 - (n : Int)) : Nat) : Int) * F (-1 - (n : Int))
theorem accF_cons (F : Int → Int) (x : Int) (l : List Int) : ∀ n : Nat, accF F (x :: l) n = accF F l n + (if -(n : Int) ≤ x ∧ x < 0 then F x else 0)
  | 0 => by rw [if_neg (by omega)]; simp [accF]
  | n + 1 => by
    simp only [accF, accF_cons F x l n, List.count_cons]
    by_cases h : x = -1 - (n : Int)
    · subst h
      have h1 : ¬ (-(n : Int) ≤ -1 - (n : Int) ∧ -1 - (n : Int) < 0) := by omega
      have h2 : -((n + 1 : Nat) : Int) ≤ -1 - (n : Int) ∧ -1 - (n : Int) < 0 := by omega
      rw [if_neg h1, if_pos h2]
      simp only [beq_self_eq_true, if_true, Int.natCast_add, Int.add_mul, Int.natCast_one, Int.one_mul]; omega
    · have hb : (x == -1 - (n : Int)) = false := by simp [h]
      rw [hb]
      simp only [Bool.false_eq_true, if_false, Nat.add_zero]
      by_cases h2 : -(n : Int) ≤ x ∧ x < 0
      · have h3 : -((n + 1 : Nat) : Int) ≤ x ∧ x < 0 := by omega
        rw [if_pos h2, if_pos h3]; omega
      · have h3 : ¬ (-((n + 1 : Nat) : Int) ≤ x ∧ x < 0) := by omega
        rw [if_neg h2, if_neg h3]; omega
theorem accF_sum (F : Int → Int) : ∀ (l : List Int), (∀ k ∈ l, -256 ≤ k) → accF F l 256 = (l.map fun k => if k < 0 then F k else 0).sum
  | [], _ => by
    have : ∀ n, accF F [] n = 0 := fun n => by induction n with | zero => rfl | succ n ih => simp [accF, ih]
    simp [this]
  | x :: r, h => by
    rw [accF_cons, accF_sum F r (fun k hk => h k (List.mem_cons_of_mem _ hk)), List.map_cons, List.sum_cons]
    have hx := h x (List.mem_cons_self ..)
    by_cases hn : x < 0
    · rw [if_pos ⟨by omega, hn⟩, if_pos hn]; omega
    · rw [if_neg (by omega), if_neg hn]; omega
theorem accF_flat (F : Int → Int) (l : List Int) (a : Nat) : ∀ n : Nat, (∀ v, a ≤ v → v < a + n → l.count (-1 - (v : Int)) = 0) → accF F l (a + n) = accF F l a
  | 0, _ => rfl
  | n + 1, h => by
    rw [← Nat.add_assoc]
    simp only [accF]
    rw [h (a + n) (by omega) (by omega), accF_flat F l a n (fun v h1 h2 => h v h1 (by omega))]; simp
theorem accF_mono (F : Int → Int) (l : List Int) (a : Nat) : ∀ n : Nat, (∀ v, v < a + n → 0 ≤ ((l.count (-1 - (v : Int)) : Nat) : Int) * F (-1 - (v : Int))) → accF F l a ≤ accF F l (a + n)
  | 0, _ => Int.le_refl _
  | n + 1, h => by
    rw [← Nat.add_assoc]
    simp only [accF]
    have h1 := h (a + n) (by omega)
    have h2 := accF_mono F l a n (fun v hv => h v (by omega))
    omega
def moreF (gs : List Sy) (bs : List Bi) (k : Int) : Int := wgtG gs (ofT bs (.mk k [])) - 1
structure Puts (gs : List Sy) (bs : List Bi) (t : T) (cs : List Int) : Prop where
  tot : wgtG gs (sbT bs t) = wgtG gs t + accF (moreF gs bs) (hds t) cs.length
  ok : ∀ v : Nat, v < cs.length → cs.getD v 0 ≠ 0 → OkG gs (ofT bs (.mk (-1 - (v : Int)) []))
  get : ∀ v : Nat, v < cs.length → cs.getD v 0 = (((hds t).count (-1 - (v : Int)) : Nat) : Int)
  le : ∀ v : Nat, v ≤ cs.length → 0 ≤ accF (moreF gs bs) (hds t) v ∧ accF (moreF gs bs) (hds t) v ≤ 400000
  one : ∀ v : Nat, v < cs.length → 0 ≤ (((hds t).count (-1 - (v : Int)) : Nat) : Int) * moreF gs bs (-1 - (v : Int))
  len : cs.length ≤ 256
theorem puts_of {gs : List Sy} {bs : List Bi} {t : T} {cs : List Int} (hO : OkG gs t) (hU : OkG gs (sbT bs t)) (hC : CInv (hds t) [] cs) : Puts gs bs t cs := by
  have hv := chk_vis hO.chk
  have hlast := hC.last
  have hlen := hC.1
  have okv : ∀ v : Nat, 0 < (hds t).count (-1 - (v : Int)) → OkG gs (ofT bs (.mk (-1 - (v : Int)) [])) := fun v hc => by
    have hm := List.count_pos_iff.1 hc
    obtain ⟨x, hx, hxh⟩ := List.mem_map.1 hm
    have hneg : x.2.head < 0 := by omega
    have := vis_ok (ofT bs) t.size t (Nat.le_refl _) true (fun y hy => (hv y hy).1) hU x hx hneg
    have ha := (hv x hx).1 hneg
    have e : x.2 = .mk (-1 - (v : Int)) [] := by
      obtain ⟨b, h, us⟩ := x
      change h = _ at hxh
      change us = [] at ha
      subst hxh; subst ha; rfl
    rw [e] at this; exact this
  have one : ∀ v : Nat, 0 ≤ (((hds t).count (-1 - (v : Int)) : Nat) : Int) * moreF gs bs (-1 - (v : Int)) := fun v => by
    by_cases hc : (hds t).count (-1 - (v : Int)) = 0
    · rw [hc]; simp
    · have h1 := okv v (by omega)
      have h2 := wgtG_range h1
      have h3 := (ofT bs (.mk (-1 - (v : Int)) [])).size_pos
      exact Int.mul_nonneg (by omega) (by unfold moreF; omega)
  have tot : wgtG gs (sbT bs t) = wgtG gs t + accF (moreF gs bs) (hds t) 256 := by
    rw [accF_sum _ _ (fun k hk => by obtain ⟨x, hx, rfl⟩ := List.mem_map.1 hk; exact (hv x hx).2)]
    unfold sbT
    rw [wgt_rb gs (ofT bs) t (fun x hx => (hv x hx).1)]
    unfold wgtG hds
    rw [List.map_map, List.map_map]
    generalize visT true t = l
    induction l with
    | nil => rfl
    | cons x r ih =>
      simp only [List.map_cons, List.sum_cons, ih, Function.comp]
      by_cases hn : x.2.head < 0
      · simp only [if_pos hn, wB, moreF, wgtG, hds]; omega
      · simp only [if_neg hn, wB]; omega
  have flat : accF (moreF gs bs) (hds t) 256 = accF (moreF gs bs) (hds t) cs.length := by
    have := accF_flat (moreF gs bs) (hds t) cs.length (256 - cs.length) (fun v h1 h2 => by
      have := hlast v (by omega)
      rw [List.getD_eq_getElem?_getD, List.getElem?_eq_none_iff.2 h1] at this
      simp at this; omega)
    rw [show cs.length + (256 - cs.length) = 256 by omega] at this
    exact this
  rw [flat] at tot
  refine ⟨tot, fun v hvl hne => okv v (by have := hlast v (by omega); omega), fun v hvl => hlast v (by omega), fun v hvl => ?_, fun v _ => one v, hlen⟩
  have h1 := accF_mono (moreF gs bs) (hds t) 0 v (fun w _ => one w)
  have h2 := accF_mono (moreF gs bs) (hds t) v (cs.length - v) (fun w _ => one w)
  rw [show v + (cs.length - v) = cs.length by omega] at h2
  rw [Nat.zero_add] at h1
  have h3 := wgtG_range hU
  have h4 := wgtG_range hO
  simp only [accF] at h1
  omega
end Go.Proofs.Ytdcklngleglbbaa
