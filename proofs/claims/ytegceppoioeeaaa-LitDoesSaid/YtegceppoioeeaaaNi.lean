/- Walks: terms put into a literal, by the program. -/
import Derived.Test.YtegceppoioeeaaaNd
set_option linter.unusedVariables false
set_option linter.unusedSimpArgs false
set_option linter.unnecessarySimpa false
/- short -/
namespace Go.Proofs.Ytegceppoioeeaaa
open Go Lg

/-- what Apply answers, exactly -/
def OutE (bs : List Bi) (t : T) (e : Int) (u : T) : Prop := ((chkB bs ∧ chkT t = 0) ∧ e = chkT (sbT bs t) ∧ u = (if chkT (sbT bs t) = 0 then sbT bs t else zeroT)) ∨ (¬ (chkB bs ∧ chkT t = 0) ∧ e = 1 ∧ u = zeroT)
theorem OutE.eq {bs : List Bi} {t : T} {e f : Int} {u w : T} (h : OutE bs t e u) (k : OutE bs t f w) : e = f ∧ u = w := by
  rcases h with ⟨h1, h2, h3⟩ | ⟨h1, h2, h3⟩ <;> rcases k with ⟨k1, k2, k3⟩ | ⟨k1, k2, k3⟩
  · exact ⟨by rw [h2, k2], by rw [h3, k3]⟩
  · exact absurd h1 k1
  · exact absurd k1 h1
  · exact ⟨by rw [h2, k2], by rw [h3, k3]⟩
theorem OutE.size {bs : List Bi} {t : T} {e : Int} {u : T} (h : OutE bs t e u) : u.size ≤ 400 := by
  rcases h with ⟨h1, h2, h3⟩ | ⟨h1, h2, h3⟩
  · subst h3; split
    · exact chkT_size (by assumption)
    · exact (by decide : zeroT.size ≤ 400)
  · subst h3; exact (by decide : zeroT.size ≤ 400)
theorem ApplyE_does {I : Imm} {vs v : Value} {bs : List Bi} {t : T} (hs : RepB I vs bs) (hv : RepT I v t) (hbs : ∀ b ∈ bs, b.2.size ≤ 500) (ht : t.size ≤ 500) :
    Does Try.prog 44 [vs, v] I [] (fun v I' δ' => (∃ e u r, v = .tuple #[r, .int .i64 e] ∧ RepT I' r u ∧ OutE bs t e u) ∧ δ' = []) := by
  obtain ⟨a0, c0, rfl, hr0⟩ := hv.shape
  obtain ⟨sa, sc, rfl⟩ := hs.shape
  have hsz : (sbT bs t).size ≤ 1000000000 := by have := sbT_size (m := 500) (by omega) hbs t; omega
  refine Does.intro Try.func44 rfl Try.ntmps44 rfl fun w0 => ?_
  refine code_seq ?_
  refine code_region ?_
  refine o_box rfl rfl rfl (fun b3 => ?_)
  refine o_alloc z25 rfl rfl (fun b4 => ?_)
  refine op_v (v_assign rfl) rfl ?_
  refine ops_nil ?_
  refine post_next ?_
  refine code_seq ?_
  refine code_seq ?_
  refine code_region ?_
  refine op_v (v_move rfl) rfl ?_
  refine op_call pl80 rfl rfl ((SCheck_does hs (fun b hb => by have := hbs b hb; omega))) Parts.none ?_
  rintro v7 I7 _ hI7 ⟨⟨e7, rfl, he7⟩, rfl⟩
  by_cases h8 : e7 ≠ 0
  · first | refine op_v (v_cmptA rfl rfl rfl) rfl ?_ | refine op_v (v_cmpfA rfl rfl rfl) rfl ?_ | refine op_v (v_cmp rfl rfl rfl) rfl ?_
    refine op_v (v_move rfl) rfl ?_
    first
      | (refine op_want rfl rfl ?_
         refine op_v (v_loadA ty25 rfl rfl) rfl ?_)
      | (refine op_skip rfl rfl (by simp [undef]) rfl ?_)
    first
      | (refine op_want rfl rfl ?_
         refine op_call pl81 rfl rfl ((TCheck_does (hv.mono Imm.leA) (by omega))) Parts.none ?_
         rintro v11 I11 _ hI11 ⟨rfl, rfl⟩)
      | (refine op_skip rfl rfl (by simp [undef]) rfl ?_)
    first
      | (refine op_want rfl rfl ?_
         first | refine op_v (v_cmptA rfl rfl rfl) rfl ?_ | refine op_v (v_cmpfA rfl rfl rfl) rfl ?_ | refine op_v (v_cmp rfl rfl rfl) rfl ?_)
      | (refine op_skip rfl rfl (by simp [undef]) rfl ?_)
    first | refine op_v (v_pickt rfl rfl) rfl ?_ | refine op_v (v_pickf rfl rfl) rfl ?_ | refine op_v (v_pickb rfl rfl rfl) rfl ?_
    refine ops_nil ?_
    refine post_next ?_
    refine code_cond_t rfl ?_
    refine code_seq ?_
    refine code_region ?_
    refine op_v (v_build bl25 rfl rfl) rfl ?_
    refine o_store ty25 rfl rfl rfl rfl rfl (by repeat (first | exact Swap.here | apply Swap.there)) rfl ?_
    refine op_v (v_assign rfl) rfl ?_
    refine ops_nil ?_
    refine post_next ?_
    refine code_ret ?_
    refine post_ret_then ?_
    refine post_ret (rs := [.cell 4 25, .tmp 5]) rfl (List.Perm.refl _) (.cons (.cell rfl ty25 (by repeat (first | exact Has.here | apply Has.there)) rfl) (.cons (.tmp rfl) .nil)) (List.nil_sublist _) ?_
    exact ⟨⟨1, zeroT, _, rfl, zeroT_rep _, .inr ⟨fun hh => by rcases he7 with h | h; omega; exact h.2 hh.1, rfl, rfl⟩⟩, rfl⟩
  · first | refine op_v (v_cmptA rfl rfl rfl) rfl ?_ | refine op_v (v_cmpfA rfl rfl rfl) rfl ?_ | refine op_v (v_cmp rfl rfl rfl) rfl ?_
    refine op_v (v_move rfl) rfl ?_
    first
      | (refine op_want rfl rfl ?_
         refine op_v (v_loadA ty25 rfl rfl) rfl ?_)
      | (refine op_skip rfl rfl (by simp [undef]) rfl ?_)
    first
      | (refine op_want rfl rfl ?_
         refine op_call pl81 rfl rfl ((TCheck_does (hv.mono Imm.leA) (by omega))) Parts.none ?_
         rintro v11 I11 _ hI11 ⟨rfl, rfl⟩)
      | (refine op_skip rfl rfl (by simp [undef]) rfl ?_)
    by_cases h12 : chkT t ≠ 0
    · first
        | (refine op_want rfl rfl ?_
           first | refine op_v (v_cmptA rfl rfl rfl) rfl ?_ | refine op_v (v_cmpfA rfl rfl rfl) rfl ?_ | refine op_v (v_cmp rfl rfl rfl) rfl ?_)
        | (refine op_skip rfl rfl (by simp [undef]) rfl ?_)
      first | refine op_v (v_pickt rfl rfl) rfl ?_ | refine op_v (v_pickf rfl rfl) rfl ?_ | refine op_v (v_pickb rfl rfl rfl) rfl ?_
      refine ops_nil ?_
      refine post_next ?_
      refine code_cond_t rfl ?_
      refine code_seq ?_
      refine code_region ?_
      refine op_v (v_build bl25 rfl rfl) rfl ?_
      refine o_store ty25 rfl rfl rfl rfl rfl (by repeat (first | exact Swap.here | apply Swap.there)) rfl ?_
      refine op_v (v_assign rfl) rfl ?_
      refine ops_nil ?_
      refine post_next ?_
      refine code_ret ?_
      refine post_ret_then ?_
      refine post_ret (rs := [.cell 4 25, .tmp 5]) rfl (List.Perm.refl _) (.cons (.cell rfl ty25 (by repeat (first | exact Has.here | apply Has.there)) rfl) (.cons (.tmp rfl) .nil)) (List.nil_sublist _) ?_
      exact ⟨⟨1, zeroT, _, rfl, zeroT_rep _, .inr ⟨fun hh => h12 hh.2, rfl, rfl⟩⟩, rfl⟩
    · first
        | (refine op_want rfl rfl ?_
           first | refine op_v (v_cmptA rfl rfl rfl) rfl ?_ | refine op_v (v_cmpfA rfl rfl rfl) rfl ?_ | refine op_v (v_cmp rfl rfl rfl) rfl ?_)
        | (refine op_skip rfl rfl (by simp [undef]) rfl ?_)
      first | refine op_v (v_pickt rfl rfl) rfl ?_ | refine op_v (v_pickf rfl rfl) rfl ?_ | refine op_v (v_pickb rfl rfl rfl) rfl ?_
      refine ops_nil ?_
      refine post_next ?_
      refine code_cond_f rfl ?_
      refine code_skip ?_
      refine post_next ?_
      refine code_seq ?_
      refine code_draw (.fl 0 (.fl 1 (.ef 2 (.fl 3 (.ef 4 (.ef 5 (.fl 6 (.fl 7 (.ef 8 (.ef 9 .done)))))))))) (fun _ => _) mixed (by kernel_rfl) (by kernel_rfl) (fun _ => (List.Sublist.refl _)) ?_
      refine e_fl rfl rfl (fun hs_ => PF.mk rfl (v_loadA ty25 rfl rfl) hs_) ?_
      refine e_fl rfl rfl (fun hs_ => PF.mk rfl (v_move rfl) hs_) ?_
      refine e_eff rfl (by intro cs b hc; cases hc) (by intro c hc; cases hc) ?_
      refine op_call pl84 rfl rfl ((open_does (hs.mono Imm.leA))) Parts.none ?_
      rintro v17 I17 _ hI17 ⟨b17, xs17, rfl, rfl, hM⟩
      refine ops_nil ?_
      refine e_next rfl side_allA ?_
      refine e_fl rfl rfl (fun hs_ => PF.mk rfl (v_makeFunc rfl rfl) hs_) ?_
      refine e_eff rfl (by intro cs b hc; cases hc) (by intro c hc; cases hc) ?_
      refine op_call pl83 rfl rfl ((rebuild_does (I0 := I17) (fun J v u hJ hu => FDoes.ofFirst (firsts := [_]) pl85 (of_does hu (hM.mono hJ))) t.size t (Nat.le_refl _) _ _ (Imm.le_refl _) (hv.mono Imm.leA))) (Parts.one Del.here) ?_
      rintro v19 I19 _ hI19 ⟨hv19, rfl⟩
      change RepT I19 v19 (sbT bs t) at hv19
      refine ops_nil ?_
      refine e_next rfl (side_nil (by kernel_rfl)) ?_
      refine e_eff rfl (by intro cs b hc; cases hc) (by intro c hc; cases hc) ?_
      refine op_call pl82 rfl rfl ((end_does hv19 hsz)) Parts.none ?_
      rintro v20 I20 _ hI20 ⟨⟨u20, rfl, hv20⟩, rfl⟩
      obtain ⟨a20, c20, rfl, _⟩ := hv20.shape
      refine ops_nil ?_
      refine e_next rfl (side_nil (by kernel_rfl)) ?_
      refine e_fl rfl rfl (fun hs_ => PF.mk rfl (v_extract rfl rfl) hs_) ?_
      refine e_fl rfl rfl (fun hs_ => PF.mk rfl (v_extract rfl rfl) hs_) ?_
      refine e_eff rfl (by intro cs b hc; cases hc) (by intro c hc; cases hc) ?_
      refine o_store ty25 rfl rfl rfl rfl rfl (by repeat (first | exact Swap.here | apply Swap.there)) rfl ?_
      refine ops_nil ?_
      refine e_next_ (side_nil (by kernel_rfl)) ?_
      refine e_eff rfl (by intro cs b hc; cases hc) (by intro c hc; cases hc) ?_
      refine op_v (v_assign rfl) rfl ?_
      refine ops_nil ?_
      refine e_next rfl (side_nil (by kernel_rfl)) ?_
      refine e_done ?_
      refine post_next ?_
      refine code_ret ?_
      refine post_ret (rs := [.cell 4 25, .tmp 5]) rfl (List.Perm.refl _) (.cons (.cell rfl ty25 (by repeat (first | exact Has.here | apply Has.there)) rfl) (.cons (.tmp rfl) .nil)) (List.nil_sublist _) ?_
      have he0 : e7 = 0 := by omega
      have hcb : chkB bs := by rcases he7 with h | h; exact h.2; omega
      exact ⟨⟨chkT (sbT bs t), _, _, rfl, hv20, .inl ⟨⟨hcb, by omega⟩, rfl, rfl⟩⟩, rfl⟩
def OutL (bs : List Bi) (x : Li) (e : Int) (y : Li) : Prop := ∃ e1 u1, OutE bs x.l e1 u1 ∧ ((e1 ≠ 0 ∧ e = e1 ∧ y = zeroLi) ∨ (e1 = 0 ∧ ∃ e2 u2, OutE bs x.r e2 u2 ∧ ((e2 ≠ 0 ∧ e = e2 ∧ y = zeroLi) ∨ (e2 = 0 ∧ e = 0 ∧ y = ⟨x.neg, u1, u2⟩))))
theorem OutL.eq {bs : List Bi} {x y z : Li} {e f : Int} (h : OutL bs x e y) (k : OutL bs x f z) : e = f ∧ y = z := by
  obtain ⟨e1, u1, h1, h⟩ := h
  obtain ⟨f1, w1, k1, k⟩ := k
  obtain ⟨rfl, rfl⟩ := h1.eq k1
  rcases h with ⟨h2, rfl, rfl⟩ | ⟨h2, e2, u2, h3, h⟩ <;> rcases k with ⟨k2, rfl, rfl⟩ | ⟨k2, f2, w2, k3, k⟩
  · exact ⟨rfl, rfl⟩
  · exact absurd k2 h2
  · exact absurd h2 k2
  · obtain ⟨rfl, rfl⟩ := h3.eq k3
    rcases h with ⟨h4, rfl, rfl⟩ | ⟨h4, rfl, rfl⟩ <;> rcases k with ⟨k4, rfl, rfl⟩ | ⟨k4, rfl, rfl⟩
    · exact ⟨rfl, rfl⟩
    · exact absurd k4 h4
    · exact absurd h4 k4
    · exact ⟨rfl, rfl⟩
theorem OutL.size {bs : List Bi} {x y : Li} {e : Int} (h : OutL bs x e y) : y.l.size ≤ 1000000000 ∧ y.r.size ≤ 1000000000 := by
  have hz : zeroT.size ≤ 400 := by decide
  obtain ⟨e1, u1, h1, ⟨_, _, rfl⟩ | ⟨_, e2, u2, h3, ⟨_, _, rfl⟩ | ⟨_, _, rfl⟩⟩⟩ := h
  · exact ⟨Nat.le_trans hz (by omega), Nat.le_trans hz (by omega)⟩
  · exact ⟨Nat.le_trans hz (by omega), Nat.le_trans hz (by omega)⟩
  · have := h1.size; have := h3.size; exact ⟨by show u1.size ≤ _; omega, by show u2.size ≤ _; omega⟩
theorem LApply_does {I : Imm} {vs va : Value} {bs : List Bi} {x : Li} (hs : RepB I vs bs) (ha : RepL I va x) (hbs : ∀ b ∈ bs, b.2.size ≤ 500) (h1 : x.l.size ≤ 500) (h2 : x.r.size ≤ 500) :
    Does Try.prog 34 [vs, va] I [] (fun v I' δ' => (∃ e y r, v = .tuple #[r, .int .i64 e] ∧ RepL I' r y ∧ OutL bs x e y) ∧ δ' = []) := by
  obtain ⟨la, lc, ra, rc, rfl, hl, hr⟩ := ha
  obtain ⟨sa, sc, rfl⟩ := hs.shape
  refine Does.intro Try.func34 rfl Try.ntmps34 rfl fun w0 => ?_
  refine code_seq ?_
  refine code_region ?_
  refine o_box rfl rfl rfl (fun b3 => ?_)
  refine o_alloc z27 rfl rfl (fun b4 => ?_)
  refine op_v (v_assign rfl) rfl ?_
  refine ops_nil ?_
  refine post_next ?_
  refine code_seq ?_
  refine code_region ?_
  refine op_v (v_move rfl) rfl ?_
  first | refine op_v (v_fieldB 1 Try.underlying27 rfl rfl fz25 rfl) rfl ?_ | refine op_v (v_fieldI 1 Try.underlying27 rfl rfl fz25 rfl (by assumption)) rfl ?_ | refine op_v (v_field Try.underlying27 rfl fz25 rfl rfl) rfl ?_
  refine op_v (v_loadA ty25 rfl rfl) rfl ?_
  refine op_call pl44 rfl rfl ((ApplyE_does (hs.mono Imm.leA) (hl.mono Imm.leA) hbs h1)) Parts.none ?_
  rintro v13 I13 _ hI13 ⟨⟨e1, u1, r1, rfl, hr1, ho1⟩, rfl⟩
  obtain ⟨ua, uc, rfl, _⟩ := hr1.shape
  refine op_v (v_move rfl) rfl ?_
  refine op_v (v_extract rfl rfl) rfl ?_
  refine op_v (v_extract rfl rfl) rfl ?_
  refine o_alloc z25 rfl rfl (fun b6 => ?_)
  refine o_store ty25 rfl rfl rfl rfl rfl (by repeat (first | exact Swap.here | apply Swap.there)) rfl ?_
  refine op_v (v_assign rfl) rfl ?_
  refine ops_nil ?_
  refine post_next ?_
  refine code_seq ?_
  refine code_seq ?_
  refine code_region ?_
  refine op_v (v_move rfl) rfl ?_
  by_cases q1 : e1 ≠ 0
  · first | refine op_v (v_cmptA rfl rfl rfl) rfl ?_ | refine op_v (v_cmpfA rfl rfl rfl) rfl ?_ | refine op_v (v_cmp rfl rfl rfl) rfl ?_
    refine ops_nil ?_
    refine post_next ?_
    refine code_cond_t rfl ?_
    refine code_seq ?_
    refine code_region ?_
    refine op_v (v_build bl27 rfl rfl) rfl ?_
    refine op_v (v_move rfl) rfl ?_
    refine o_store ty27 rfl rfl rfl rfl rfl (by repeat (first | exact Swap.here | apply Swap.there)) rfl ?_
    refine op_v (v_assign rfl) rfl ?_
    refine ops_nil ?_
    refine post_next ?_
    refine code_ret ?_
    refine post_ret_then ?_
    refine post_ret (rs := [.cell 4 27, .tmp 5]) rfl (List.Perm.refl _) (.cons (.cell rfl ty27 (by repeat (first | exact Has.here | apply Has.there)) rfl) (.cons (.tmp rfl) .nil)) (List.nil_sublist _) ?_
    exact ⟨⟨e1, zeroLi, _, rfl, ⟨none, 0, none, 0, rfl, zeroT_rep _, zeroT_rep _⟩, e1, u1, ho1, .inl ⟨q1, rfl, rfl⟩⟩, rfl⟩
  · first | refine op_v (v_cmptA rfl rfl rfl) rfl ?_ | refine op_v (v_cmpfA rfl rfl rfl) rfl ?_ | refine op_v (v_cmp rfl rfl rfl) rfl ?_
    refine ops_nil ?_
    refine post_next ?_
    refine code_cond_f rfl ?_
    refine code_skip ?_
    refine post_next ?_
    refine code_seq ?_
    refine code_region ?_
    refine op_v (v_move rfl) rfl ?_
    first | refine op_v (v_fieldB 3 Try.underlying27 rfl rfl fz25 rfl) rfl ?_ | refine op_v (v_fieldI 3 Try.underlying27 rfl rfl fz25 rfl (by assumption)) rfl ?_ | refine op_v (v_field Try.underlying27 rfl fz25 rfl rfl) rfl ?_
    refine op_v (v_loadA ty25 rfl rfl) rfl ?_
    refine op_call pl44 rfl rfl ((ApplyE_does (hs.mono Imm.leA) (hr.mono Imm.leA) hbs h2)) Parts.none ?_
    rintro v24 I24 _ hI24 ⟨⟨e2, u2, r2, rfl, hr2, ho2⟩, rfl⟩
    obtain ⟨wa, wc, rfl, _⟩ := hr2.shape
    refine op_v (v_move rfl) rfl ?_
    refine op_v (v_extract rfl rfl) rfl ?_
    refine op_v (v_extract rfl rfl) rfl ?_
    refine o_alloc z25 rfl rfl (fun b8 => ?_)
    refine o_store ty25 rfl rfl rfl rfl rfl (by repeat (first | exact Swap.here | apply Swap.there)) rfl ?_
    refine op_v (v_assign rfl) rfl ?_
    refine ops_nil ?_
    refine post_next ?_
    refine code_seq ?_
    refine code_seq ?_
    refine code_region ?_
    refine op_v (v_move rfl) rfl ?_
    by_cases q2 : e2 ≠ 0
    · first | refine op_v (v_cmptA rfl rfl rfl) rfl ?_ | refine op_v (v_cmpfA rfl rfl rfl) rfl ?_ | refine op_v (v_cmp rfl rfl rfl) rfl ?_
      refine ops_nil ?_
      refine post_next ?_
      refine code_cond_t rfl ?_
      refine code_seq ?_
      refine code_region ?_
      refine op_v (v_build bl27 rfl rfl) rfl ?_
      refine op_v (v_move rfl) rfl ?_
      refine o_store ty27 rfl rfl rfl rfl rfl (by repeat (first | exact Swap.here | apply Swap.there)) rfl ?_
      refine op_v (v_assign rfl) rfl ?_
      refine ops_nil ?_
      refine post_next ?_
      refine code_ret ?_
      refine post_ret_then ?_
      refine post_ret (rs := [.cell 4 27, .tmp 5]) rfl (List.Perm.refl _) (.cons (.cell rfl ty27 (by repeat (first | exact Has.here | apply Has.there)) rfl) (.cons (.tmp rfl) .nil)) (List.nil_sublist _) ?_
      exact ⟨⟨e2, zeroLi, _, rfl, ⟨none, 0, none, 0, rfl, zeroT_rep _, zeroT_rep _⟩, e1, u1, ho1, .inr ⟨by omega, e2, u2, ho2, .inl ⟨q2, rfl, rfl⟩⟩⟩, rfl⟩
    · first | refine op_v (v_cmptA rfl rfl rfl) rfl ?_ | refine op_v (v_cmpfA rfl rfl rfl) rfl ?_ | refine op_v (v_cmp rfl rfl rfl) rfl ?_
      refine ops_nil ?_
      refine post_next ?_
      refine code_cond_f rfl ?_
      refine code_skip ?_
      refine post_next ?_
      refine code_seq ?_
      refine code_region ?_
      first | refine op_v (v_fieldB 0 Try.underlying27 rfl rfl fz4 rfl) rfl ?_ | refine op_v (v_fieldI 0 Try.underlying27 rfl rfl fz4 rfl (by assumption)) rfl ?_ | refine op_v (v_field Try.underlying27 rfl fz4 rfl rfl) rfl ?_
      refine op_v (v_loadA ty4 rfl rfl) rfl ?_
      refine op_v (v_loadA ty25 rfl rfl) rfl ?_
      refine op_v (v_loadA ty25 rfl rfl) rfl ?_
      refine op_v (v_build bl27 rfl rfl) rfl ?_
      refine o_store ty27 rfl rfl rfl rfl rfl (by repeat (first | exact Swap.here | apply Swap.there)) rfl ?_
      refine op_v (v_assign rfl) rfl ?_
      refine ops_nil ?_
      refine post_next ?_
      refine code_ret ?_
      refine post_ret (rs := [.cell 4 27, .tmp 5]) rfl (List.Perm.refl _) (.cons (.cell rfl ty27 (by repeat (first | exact Has.here | apply Has.there)) rfl) (.cons (.tmp rfl) .nil)) (List.nil_sublist _) ?_
      exact ⟨⟨0, ⟨x.neg, u1, u2⟩, _, rfl, ⟨ua, uc, wa, wc, rfl, hr1.mono Imm.leA, hr2.mono Imm.leA⟩, e1, u1, ho1, .inr ⟨by omega, e2, u2, ho2, .inr ⟨by omega, rfl, rfl⟩⟩⟩, rfl⟩
end Go.Proofs.Ytegceppoioeeaaa
