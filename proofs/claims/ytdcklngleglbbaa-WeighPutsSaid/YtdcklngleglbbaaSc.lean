/- Walks: terms put in place of variables. -/
import Derived.Test.YtdcklngleglbbaaSb
import Derived.Test.YtdcklngleglbbaaLe
set_option linter.unusedVariables false
set_option linter.unusedSimpArgs false
namespace Go.Proofs.Ytdcklngleglbbaa
open Go Lg

mutual
/-- a term with something in place of each variable -/
def rbT (f : T → T) : T → T
  | .mk h us => if h < 0 then f (.mk h us) else .mk h (rbL f us)
def rbL (f : T → T) : List T → List T
  | [] => []
  | t :: r => rbT f t :: rbL f r
end
theorem rbL_map (f : T → T) : ∀ us : List T, rbL f us = us.map (rbT f)
  | [] => rfl
  | t :: r => by simp [rbL, rbL_map f r]
theorem rbL_len (f : T → T) (us : List T) : (rbL f us).length = us.length := by rw [rbL_map]; simp
theorem rbL_take (f : T → T) (us : List T) (k : Nat) (h : k < us.length) : rbL f (us.take (k + 1)) = rbL f (us.take k) ++ [rbT f us[k]] := by
  rw [rbL_map, rbL_map, List.take_succ_eq_append_getElem h, List.map_append]; rfl

theorem rebuild_does {fv : Value} {δf : List Ent} {f : T → T} {I0 : Imm} (hf : ∀ J v t, I0.le J → RepT J v t → FDoes Try.prog fv [v] J δf (fun v' J' δ' => RepT J' v' (f t) ∧ δ' = δf)) :
    ∀ (n : Nat) (t : T), t.size ≤ n → ∀ (I : Imm) (v : Value), I0.le I → RepT I v t →
    Does Try.prog 73 [v, fv] I δf (fun v I' δ' => RepT I' v (rbT f t) ∧ δ' = δf) := by
  intro n
  induction n with
  | zero => intro t ht; have := t.size_pos; omega
  | succ n ih =>
    intro t ht I v hI hv
    obtain ⟨h, ts⟩ := t
    have hv0 := hv
    obtain ⟨ad, c, ss, rfl, hr, hc, hb, hat, hsub⟩ := hv.elim
    have hsz : (T.mk h ts).size = 1 + sizeL ts := by simp [T.size]
    refine Does.intro Try.func73 rfl Try.ntmps73 rfl fun w0 => ?_
    refine code_seq ?_
    refine code_region ?_
    refine o_box rfl rfl rfl (fun b2 => ?_)
    refine o_alloc z24 rfl rfl (fun b4 => ?_)
    refine ops_nil ?_
    refine post_next ?_
    refine code_seq ?_
    refine code_seq ?_
    refine code_region ?_
    first | refine op_v (v_fieldB 0 Try.underlying24 rfl rfl fz3 rfl) rfl ?_ | refine op_v (v_fieldI 0 Try.underlying24 rfl rfl fz3 rfl (by assumption)) rfl ?_ | refine op_v (v_field Try.underlying24 rfl fz3 rfl rfl) rfl ?_
    refine op_v (v_load ty3 rfl (by repeat (first | exact Has.here | apply Has.there)) rfl) rfl ?_
    by_cases hneg : h < 0
    · first | refine op_v (v_cmpt rfl rfl rfl (by first | omega | (simp; done) | (simp; omega))) rfl ?_ | refine op_v (v_cmpf rfl rfl rfl (by first | omega | (simp; done) | (simp; omega))) rfl ?_ | refine op_v (v_cmp rfl rfl rfl) rfl ?_
      refine ops_nil ?_
      refine post_next ?_
      refine code_cond_t rfl ?_
      refine code_seq ?_
      refine code_region ?_
      refine op_v (v_move rfl) rfl ?_
      refine op_v (v_load ty24 rfl (by repeat (first | exact Has.here | apply Has.there)) rfl) rfl ?_
      refine op_fcall rfl rfl rfl ((hf _ _ _ hI hv0)) (List.perm_append_comm (l₁ := [_, _])) ?_
      rintro v13 I13 _ hI13 ⟨hv13, rfl⟩
      obtain ⟨a13, c13, rfl, _⟩ := hv13.shape
      refine OpsJ.view (View.perm (List.perm_append_comm (l₂ := [_, _]))) ?_
      refine o_store ty24 rfl rfl rfl rfl rfl (by repeat (first | exact Swap.here | apply Swap.there)) rfl ?_
      refine ops_nil ?_
      refine post_next ?_
      refine code_ret ?_
      refine post_ret_then ?_
      refine post_ret (rs := [.cell 4 24]) rfl (List.Perm.refl _) (.cons (.cell rfl ty24 (by repeat (first | exact Has.here | apply Has.there)) rfl) .nil) (List.Sublist.cons _ (List.Sublist.cons _ (List.Sublist.refl _))) ?_
      exact ⟨by simp only [rbT]; rw [if_pos hneg]; exact hv13, rfl⟩
    · first | refine op_v (v_cmpt rfl rfl rfl (by first | omega | (simp; done) | (simp; omega))) rfl ?_ | refine op_v (v_cmpf rfl rfl rfl (by first | omega | (simp; done) | (simp; omega))) rfl ?_ | refine op_v (v_cmp rfl rfl rfl) rfl ?_
      refine ops_nil ?_
      refine post_next ?_
      refine code_cond_f rfl ?_
      refine code_skip ?_
      refine post_next ?_
      refine code_seq ?_
      refine code_region ?_
      first | refine op_v (v_fieldB 0 Try.underlying24 rfl rfl fz3 rfl) rfl ?_ | refine op_v (v_fieldI 0 Try.underlying24 rfl rfl fz3 rfl (by assumption)) rfl ?_ | refine op_v (v_field Try.underlying24 rfl fz3 rfl rfl) rfl ?_
      refine op_v (v_load ty3 rfl (by repeat (first | exact Has.here | apply Has.there)) rfl) rfl ?_
      refine op_v (v_build bl24 rfl rfl) rfl ?_
      refine o_alloc z24 rfl rfl (fun b5 => ?_)
      refine o_store ty24 rfl rfl rfl rfl rfl (by repeat (first | exact Swap.here | apply Swap.there)) rfl ?_
      refine ops_nil ?_
      refine post_next ?_
      refine code_seq ?_
      refine code_seq ?_
      refine code_region ?_
      first | refine op_v (v_fieldB 1 Try.underlying24 rfl rfl fz22 rfl) rfl ?_ | refine op_v (v_fieldI 1 Try.underlying24 rfl rfl fz22 rfl (by assumption)) rfl ?_ | refine op_v (v_field Try.underlying24 rfl fz22 rfl rfl) rfl ?_
      refine op_v (v_load ty22 rfl (by repeat (first | exact Has.here | apply Has.there)) rfl) rfl ?_
      refine op_v (v_len Try.underlying22 rfl) rfl ?_
      refine op_v (v_move rfl) rfl ?_
      refine ops_nil ?_
      refine post_next ?_
      refine code_block ?_
      refine CodeJ.view (View.nilRow 24 2) ?_
      refine code_loop (fun m σ' I' δ' => ∃ (k : Nat) (ar : Option Addr) (cr : Nat) (xs : List Value), m = ts.length - k ∧ k ≤ ts.length ∧ σ' = [(1, fv), (4, .pointer (some ⟨b4, 0, none⟩)), (5, .pointer (some ⟨b5, 0, none⟩)), (18, .slice ad ts.length c), (19, .int .i64 ts.length), (20, .int .i64 k)] ∧ I.le I' ∧ δ' = .row (.slice ar k cr) 24 2 k xs :: .box b5 24 [.int .i64 h, .slice ar k cr] :: .box b4 24 [.int .i64 0, .slice none 0 0] :: .box b2 24 [.int .i64 h, .slice ad ts.length c] :: δf ∧ RowT I' xs (rbL f (ts.take k))) ts.length [(1, fv), (4, .pointer (some ⟨b4, 0, none⟩)), (5, .pointer (some ⟨b5, 0, none⟩)), (18, .slice ad ts.length c), (19, .int .i64 ts.length), (20, .int .i64 (0 : Nat))] ⟨0, none, 0, [], rfl, Nat.zero_le _, rfl, Imm.le_refl _, rfl, RowT.nil _⟩ ⟨rfl, rfl, rfl, rfl, rfl, rfl, trivial⟩ ?_
      rintro m _ I1 _ ⟨k, ar, cr, xs, rfl, hk, rfl, hI1, rfl, hp⟩
      refine code_seq ?_
      refine code_region ?_
      first | refine op_v (v_cmpt rfl rfl rfl (by first | omega | (simp; done) | (simp; omega))) rfl ?_ | refine op_v (v_cmpf rfl rfl rfl (by first | omega | (simp; done) | (simp; omega))) rfl ?_ | refine op_v (v_cmp rfl rfl rfl) rfl ?_
      refine ops_nil ?_
      refine post_next ?_
      refine code_seq ?_
      refine code_cond rfl (fun hc1 => ?_) (fun hc1 => ?_)
      · have hlt : k < ts.length := by simpa using hc1
        have hs1 := (hat k hlt).isSome
        have hm := sizeL_mem ts k hlt
        refine code_skip ?_
        refine post_next ?_
        refine code_seq ?_
        refine code_block ?_
        refine code_seq ?_
        refine code_region ?_
        first | refine op_v (v_index Try.underlying22 sz24 rfl rfl (by omega) (by assumption)) rfl ?_ | refine op_v (v_indexI Try.underlying22 sz24 rfl rfl (by first | omega | (simp; done) | (simp; omega)) (by first | omega | (simp; done) | (simp; omega)) (by assumption)) rfl ?_
        first | refine op_v (v_loadI0 ty24 ((hat k hlt).mono hI1) rfl rfl rfl) rfl ?_ | refine op_v (v_loadI ty24 ((hat k hlt).mono hI1) rfl rfl rfl) rfl ?_
        refine o_alloc z24 rfl rfl (fun b7 => ?_)
        refine o_store ty24 rfl rfl rfl rfl rfl (by repeat (first | exact Swap.here | apply Swap.there)) rfl ?_
        refine ops_nil ?_
        refine post_next ?_
        refine code_draw (.fl 0 (.fl 1 (.fl 2 (.fl 3 (.ef 4 (.ef 5 (.ef 6 (.fl 7 (.ef 8 .done))))))))) (fun _ => .box b7 24 [.int .i64 ts[k].head, .slice (ss k).1 ts[k].args.length (ss k).2] :: .box b5 24 [.int .i64 h, .slice ar k cr] :: .box b4 24 [.int .i64 0, .slice none 0 0] :: .box b2 24 [.int .i64 h, .slice ad ts.length c] :: δf) mixed (by kernel_rfl) (by kernel_rfl) (fun _ => (List.Sublist.cons_cons _ (List.Sublist.cons _ (List.Sublist.refl _)))) ?_
        first | refine e_float rfl rfl (fun hs_ => PF.mk rfl (v_fieldB 1 Try.underlying24 rfl rfl fz22 rfl) hs_) (by repeat (first | exact Imm.le_refl _ | assumption | refine Imm.le_trans ?_ (by assumption))) (by intro x hx; simp only [List.mem_cons] at hx ⊢; rcases hx with h | h | h | h | h <;> simp [h, cellsL]) ?_ | refine e_float rfl rfl (fun hs_ => PF.mk rfl (v_fieldI 1 Try.underlying24 rfl rfl fz22 rfl (by assumption)) hs_) (by repeat (first | exact Imm.le_refl _ | assumption | refine Imm.le_trans ?_ (by assumption))) (by intro x hx; simp only [List.mem_cons] at hx ⊢; rcases hx with h | h | h | h | h <;> simp [h, cellsL]) ?_ | refine e_float rfl rfl (fun hs_ => PF.mk rfl (v_field Try.underlying24 rfl fz22 rfl rfl) hs_) (by repeat (first | exact Imm.le_refl _ | assumption | refine Imm.le_trans ?_ (by assumption))) (by intro x hx; simp only [List.mem_cons] at hx ⊢; rcases hx with h | h | h | h | h <;> simp [h, cellsL]) ?_
        refine e_float rfl rfl (fun hs_ => PF.mk rfl (v_load ty22 rfl (by repeat (first | exact Has.here | apply Has.there)) rfl) hs_) (by repeat (first | exact Imm.le_refl _ | assumption | refine Imm.le_trans ?_ (by assumption))) (by intro x hx; simp only [List.mem_cons] at hx ⊢; rcases hx with h | h | h | h | h <;> simp [h, cellsL]) ?_
        refine e_float rfl rfl (fun hs_ => PF.mk rfl (v_load ty24 rfl (by repeat (first | exact Has.here | apply Has.there)) rfl) hs_) (by repeat (first | exact Imm.le_refl _ | assumption | refine Imm.le_trans ?_ (by assumption))) (by intro x hx; simp only [List.mem_cons] at hx ⊢; rcases hx with h | h | h | h | h <;> simp [h, cellsL]) ?_
        refine e_float rfl rfl (fun hs_ => PF.mk rfl (v_move rfl) hs_) (by repeat (first | exact Imm.le_refl _ | assumption | refine Imm.le_trans ?_ (by assumption))) (by intro x hx; simp only [List.mem_cons] at hx ⊢; rcases hx with h | h | h | h | h <;> simp [h, cellsL]) ?_
        refine e_eff rfl (by intro cs b hc; cases hc) (by intro c hc; cases hc) ?_
        refine op_call pl73 rfl rfl ((ih ts[k] (by omega) _ _ (Imm.le_trans hI hI1) ((hsub k hlt).mono hI1))) (List.perm_append_comm (l₁ := [_, _, _, _, _])) ?_
        rintro v28 I28 _ hI28 ⟨hv28, rfl⟩
        obtain ⟨p28, q28, rfl, _⟩ := hv28.shape
        refine OpsJ.view (View.perm (List.perm_append_comm (l₂ := [_, _, _, _, _]))) ?_
        refine ops_nil ?_
        refine e_next rfl (side_all (by repeat (first | exact Imm.le_refl _ | assumption | refine Imm.le_trans ?_ (by assumption))) (fun _ => (by intro x hx; simp only [List.mem_cons] at hx ⊢; rcases hx with h | h | h | h | h <;> simp [h, cellsL]))) ?_
        refine e_eff rfl (by intro cs b hc; cases hc) (by intro c hc; cases hc) ?_
        refine o_buildSlice (xs := [(Go.Operand.tmp 28)]) Try.underlying22 bs24 rfl rfl rfl rfl rfl (fun b29 => ?_)
        refine ops_nil ?_
        refine e_next rfl (side_all (by repeat (first | exact Imm.le_refl _ | assumption | refine Imm.le_trans ?_ (by assumption))) (fun _ => (by intro x hx; simp only [List.mem_cons] at hx ⊢; rcases hx with h | h | h | h | h <;> simp [h, cellsL]))) ?_
        refine e_eff rfl (by intro cs b hc; cases hc) (by intro c hc; cases hc) ?_
        refine o_append Try.underlying22 bs24 rfl rfl rfl (fun v' => by repeat (first | exact Swap.here | apply Swap.there)) (Src.ofRow (by repeat (first | exact Has.here | apply Has.there)) rfl) (by first | rfl | omega | simp) (by simp [cat, cellsL, Value.oneCell']) (by omega) (by omega) (fun a30 c30 => ?_)
        refine ops_nil ?_
        refine e_next rfl (side_all (by repeat (first | exact Imm.le_refl _ | assumption | refine Imm.le_trans ?_ (by assumption))) (fun _ => (by intro x hx; simp only [List.mem_cons] at hx ⊢; rcases hx with h | h | h | h | h <;> simp [h, cellsL]))) ?_
        first | refine e_float rfl rfl (fun hs_ => PF.mk rfl (v_fieldB 1 Try.underlying24 rfl rfl fz22 rfl) hs_) (by repeat (first | exact Imm.le_refl _ | assumption | refine Imm.le_trans ?_ (by assumption))) (by intro x hx; simp only [List.mem_cons] at hx ⊢; rcases hx with h | h | h | h | h <;> simp [h, cellsL]) ?_ | refine e_float rfl rfl (fun hs_ => PF.mk rfl (v_fieldI 1 Try.underlying24 rfl rfl fz22 rfl (by assumption)) hs_) (by repeat (first | exact Imm.le_refl _ | assumption | refine Imm.le_trans ?_ (by assumption))) (by intro x hx; simp only [List.mem_cons] at hx ⊢; rcases hx with h | h | h | h | h <;> simp [h, cellsL]) ?_ | refine e_float rfl rfl (fun hs_ => PF.mk rfl (v_field Try.underlying24 rfl fz22 rfl rfl) hs_) (by repeat (first | exact Imm.le_refl _ | assumption | refine Imm.le_trans ?_ (by assumption))) (by intro x hx; simp only [List.mem_cons] at hx ⊢; rcases hx with h | h | h | h | h <;> simp [h, cellsL]) ?_
        refine e_eff rfl (by intro cs b hc; cases hc) (by intro c hc; cases hc) ?_
        refine o_store ty22 rfl rfl rfl rfl rfl (by repeat (first | exact Swap.here | apply Swap.there)) rfl ?_
        refine ops_nil ?_
        refine e_next_ (side_nil (by kernel_rfl)) ?_
        refine e_done ?_
        refine post_out ?_
        refine post_next ?_
        refine code_region ?_
        first | refine op_v (v_addb rfl rfl rfl (by omega)) rfl ?_ | refine op_v (v_add rfl rfl) rfl ?_
        refine op_v (v_move rfl) rfl ?_
        refine ops_nil ?_
        refine PostJ.view ((View.drop Del.here).trans (View.drop Del.here)) ?_
        refine post_again (ts.length - (k + 1)) [(1, fv), (4, .pointer (some ⟨b4, 0, none⟩)), (5, .pointer (some ⟨b5, 0, none⟩)), (18, .slice ad ts.length c), (19, .int .i64 ts.length), (20, .int .i64 ((k + 1 : Nat) : Int))] (by omega) ⟨k + 1, a30, c30, xs ++ [.int .i64 (rbT f ts[k]).head, .slice p28 (rbT f ts[k]).args.length q28], rfl, hlt, rfl, Imm.le_trans hI1 hI28, rfl, ?_⟩ ⟨rfl, rfl, rfl, rfl, rfl, rfl, trivial⟩
        rw [rbL_take f ts k hlt]
        exact (hp.mono hI28).app (RowT.one hv28)
      · have hge : k = ts.length := by simp at hc1; omega
        subst hge
        rw [List.take_length] at hp
        refine code_exit ?_
        refine post_exit_then ?_
        refine post_exit_then ?_
        refine post_exit ?_
        refine post_next ?_
        refine code_seq ?_
        refine code_region ?_
        refine OpsJ.freezeRow Del.here ?_
        rintro I33 ar2 cr2 hI33 hvr hcr hlr hcells
        cases hvr
        refine op_v (v_load ty24 rfl (by repeat (first | exact Has.here | apply Has.there)) rfl) rfl ?_
        refine o_store ty24 rfl rfl rfl rfl rfl (by repeat (first | exact Swap.here | apply Swap.there)) rfl ?_
        refine ops_nil ?_
        refine post_next ?_
        refine code_ret ?_
        refine post_ret (rs := [.cell 4 24]) rfl (List.Perm.refl _) (.cons (.cell rfl ty24 (by repeat (first | exact Has.here | apply Has.there)) rfl) .nil) (List.Sublist.cons _ (List.Sublist.cons _ (List.Sublist.cons _ (List.Sublist.refl _)))) ?_
        exact ⟨by simp only [rbT]; rw [if_neg hneg]; have hl := rbL_len f ts; have := RowT.rep (h := h) hcells (hp.mono hI33) hr (by rw [hl]; exact hcr) (by rw [hl]; exact hb); rw [hl] at this; exact this, rfl⟩

/-! ### sizes -/
mutual
theorem rb_sizeT (f : T → T) (m : Nat) (hm : 1 ≤ m) (hf : ∀ t, t.head < 0 → (f t).size ≤ m * t.size) : ∀ t : T, (rbT f t).size ≤ m * t.size
  | .mk h us => by
    simp only [rbT]
    split
    · exact hf _ (by assumption)
    · have := rb_sizeL f m hm hf us
      simp only [T.size, Nat.mul_add]; omega
theorem rb_sizeL (f : T → T) (m : Nat) (hm : 1 ≤ m) (hf : ∀ t, t.head < 0 → (f t).size ≤ m * t.size) : ∀ us : List T, sizeL (rbL f us) ≤ m * sizeL us
  | [] => by simp [rbL, sizeL]
  | t :: r => by
    have h1 := rb_sizeT f m hm hf t
    have h2 := rb_sizeL f m hm hf r
    simp only [rbL, sizeL, Nat.mul_add]; omega
end
theorem ofB_mem : ∀ {bs : List Bi} {v : Int} {t : T}, ofB bs v = some t → ∃ b ∈ bs, b.1 = v ∧ b.2 = t
  | [], v, t, h => by simp [ofB] at h
  | (w, u) :: r, v, t, h => by
    simp only [ofB] at h
    split at h
    · cases h; exact ⟨(w, u), List.mem_cons_self .., by assumption, rfl⟩
    · obtain ⟨b, hb, h1⟩ := ofB_mem h; exact ⟨b, List.mem_cons_of_mem _ hb, h1⟩
theorem ofT_size {bs : List Bi} {m : Nat} (hm : 1 ≤ m) (hb : ∀ b ∈ bs, b.2.size ≤ m) (t : T) : (ofT bs t).size ≤ m * t.size := by
  have hp := t.size_pos
  unfold ofT
  cases h : ofB bs (-1 - t.head) with
  | none =>
    show t.size ≤ _
    calc t.size = 1 * t.size := (Nat.one_mul _).symm
      _ ≤ m * t.size := Nat.mul_le_mul_right _ hm
  | some u =>
    obtain ⟨b, hbm, _, rfl⟩ := ofB_mem h
    have := hb b hbm
    show b.2.size ≤ _
    calc b.2.size ≤ m * 1 := by omega
      _ ≤ m * t.size := Nat.mul_le_mul_left _ hp
def sbT (bs : List Bi) (t : T) : T := rbT (ofT bs) t
theorem sbT_size {bs : List Bi} {m : Nat} (hm : 1 ≤ m) (hb : ∀ b ∈ bs, b.2.size ≤ m) (t : T) : (sbT bs t).size ≤ m * t.size := rb_sizeT _ m hm (fun t _ => ofT_size hm hb t) t

/-! ### rightness -/
def badBi (last : Int) (b : Bi) : Bool := decide (b.1 ≤ last) || (decide (255 < b.1) || (decide (chkT b.2 ≠ 0) || decide (b.2.head = -1 - b.1)))
def chkB (bs : List Bi) : Prop := ∀ i (h : i < bs.length), badBi (if i = 0 then -1 else (bs.getD (i - 1) (0, zeroT)).1) bs[i] = false
theorem SCheck_does {I : Imm} {v : Value} {bs : List Bi} (hv : RepB I v bs) (hbig : ∀ b ∈ bs, b.2.size ≤ 1000000000) :
    Does Try.prog 71 [v] I [] (fun v I' δ' => (∃ e : Int, v = .int .i64 e ∧ (e = 0 ∧ chkB bs ∨ e = 1 ∧ ¬ chkB bs)) ∧ δ' = []) := by
  obtain ⟨ad, c, rfl⟩ := hv.shape
  obtain ⟨_, hc, hb, hr, ss, hat, hsub⟩ := hv.open
  refine Does.intro Try.func71 rfl Try.ntmps71 rfl fun w0 => ?_
  refine code_seq ?_
  refine code_region ?_
  refine op_v (v_assign rfl) rfl ?_
  refine ops_nil ?_
  refine post_next ?_
  refine code_seq ?_
  refine code_region ?_
  refine op_v (v_assign rfl) rfl ?_
  refine ops_nil ?_
  refine post_next ?_
  refine code_seq ?_
  refine code_seq ?_
  refine code_region ?_
  refine op_v (v_move rfl) rfl ?_
  refine op_v (v_len Try.underlying59 rfl) rfl ?_
  refine op_v (v_move rfl) rfl ?_
  refine ops_nil ?_
  refine post_next ?_
  refine code_block ?_
  refine code_loop (fun m σ' I' δ' => ∃ (k : Nat) (last : Int), m = bs.length - k ∧ k ≤ bs.length ∧ σ' = [(3, .int .i64 last), (6, .slice ad bs.length c), (7, .int .i64 bs.length), (8, .int .i64 k)] ∧ I.le I' ∧ δ' = [] ∧ last = (if k = 0 then -1 else (bs.getD (k - 1) (0, zeroT)).1) ∧ ∀ i (h : i < bs.length), i < k → badBi (if i = 0 then -1 else (bs.getD (i - 1) (0, zeroT)).1) bs[i] = false) bs.length [(3, .int .i64 (-1)), (6, .slice ad bs.length c), (7, .int .i64 bs.length), (8, .int .i64 (0 : Nat))] ⟨0, -1, rfl, Nat.zero_le _, rfl, Imm.le_refl _, rfl, rfl, fun i _ h => by omega⟩ ⟨rfl, rfl, rfl, rfl, trivial⟩ ?_
  rintro m _ I0 _ ⟨k, last, rfl, hk, rfl, hI0, rfl, hlast, hp⟩
  refine code_seq ?_
  refine code_region ?_
  first | refine op_v (v_cmpt rfl rfl rfl (by first | omega | (simp; done) | (simp; omega))) rfl ?_ | refine op_v (v_cmpf rfl rfl rfl (by first | omega | (simp; done) | (simp; omega))) rfl ?_ | refine op_v (v_cmp rfl rfl rfl) rfl ?_
  refine ops_nil ?_
  refine post_next ?_
  refine code_seq ?_
  refine code_cond rfl (fun hc0 => ?_) (fun hc0 => ?_)
  · have hlt : k < bs.length := by simpa using hc0
    have hs1 := (hat k hlt).isSome
    have hkr := hr k hlt
    unfold InR at hkr
    refine code_skip ?_
    refine post_next ?_
    refine code_seq ?_
    refine code_block ?_
    refine code_seq ?_
    refine code_region ?_
    first | refine op_v (v_index Try.underlying59 sz88 rfl rfl (by omega) (by assumption)) rfl ?_ | refine op_v (v_indexI Try.underlying59 sz88 rfl rfl (by first | omega | (simp; done) | (simp; omega)) (by first | omega | (simp; done) | (simp; omega)) (by assumption)) rfl ?_
    first | refine op_v (v_loadI0 ty88 ((hat k hlt).mono hI0) rfl rfl rfl) rfl ?_ | refine op_v (v_loadI ty88 ((hat k hlt).mono hI0) rfl rfl rfl) rfl ?_
    refine o_alloc z88 rfl rfl (fun b5 => ?_)
    refine o_store ty88 rfl rfl rfl rfl rfl (by repeat (first | exact Swap.here | apply Swap.there)) rfl ?_
    refine ops_nil ?_
    refine post_next ?_
    refine code_seq ?_
    refine code_seq ?_
    refine code_region ?_
    first | refine op_v (v_fieldB 0 Try.underlying88 rfl rfl fz3 rfl) rfl ?_ | refine op_v (v_fieldI 0 Try.underlying88 rfl rfl fz3 rfl (by assumption)) rfl ?_ | refine op_v (v_field Try.underlying88 rfl fz3 rfl rfl) rfl ?_
    refine op_v (v_load ty3 rfl (by repeat (first | exact Has.here | apply Has.there)) rfl) rfl ?_
    refine op_v (v_move rfl) rfl ?_
    by_cases h15 : bs[k].1 ≤ last
    · first | refine op_v (v_cmpt rfl rfl rfl (by first | omega | (simp; done) | (simp; omega))) rfl ?_ | refine op_v (v_cmpf rfl rfl rfl (by first | omega | (simp; done) | (simp; omega))) rfl ?_ | refine op_v (v_cmp rfl rfl rfl) rfl ?_
      refine op_v (v_move rfl) rfl ?_
      first
        | (refine op_want rfl rfl ?_
           first | refine op_v (v_fieldB 0 Try.underlying88 rfl rfl fz3 rfl) rfl ?_ | refine op_v (v_fieldI 0 Try.underlying88 rfl rfl fz3 rfl (by assumption)) rfl ?_ | refine op_v (v_field Try.underlying88 rfl fz3 rfl rfl) rfl ?_)
        | (refine op_skip rfl rfl (by simp [undef]) rfl ?_)
      first
        | (refine op_want rfl rfl ?_
           refine op_v (v_load ty3 rfl (by repeat (first | exact Has.here | apply Has.there)) rfl) rfl ?_)
        | (refine op_skip rfl rfl (by simp [undef]) rfl ?_)
      first
        | (refine op_want rfl rfl ?_
           first | refine op_v (v_cmpt rfl rfl rfl (by first | omega | (simp; done) | (simp; omega))) rfl ?_ | refine op_v (v_cmpf rfl rfl rfl (by first | omega | (simp; done) | (simp; omega))) rfl ?_ | refine op_v (v_cmp rfl rfl rfl) rfl ?_)
        | (refine op_skip rfl rfl (by simp [undef]) rfl ?_)
      first | refine op_v (v_pickt rfl rfl) rfl ?_ | refine op_v (v_pickf rfl rfl) rfl ?_ | refine op_v (v_pickb rfl rfl rfl) rfl ?_
      refine op_v (v_move rfl) rfl ?_
      first
        | (refine op_want rfl rfl ?_
           first | refine op_v (v_fieldB 1 Try.underlying88 rfl rfl fz24 rfl) rfl ?_ | refine op_v (v_fieldI 1 Try.underlying88 rfl rfl fz24 rfl (by assumption)) rfl ?_ | refine op_v (v_field Try.underlying88 rfl fz24 rfl rfl) rfl ?_)
        | (refine op_skip rfl rfl (by simp [undef]) rfl ?_)
      first
        | (refine op_want rfl rfl ?_
           refine op_v (v_load ty24 rfl (by repeat (first | exact Has.here | apply Has.there)) rfl) rfl ?_)
        | (refine op_skip rfl rfl (by simp [undef]) rfl ?_)
      first
        | (refine op_want rfl rfl ?_
           refine op_call pl43 rfl rfl ((TCheck_does ((hsub k hlt).mono hI0) (hbig _ (List.getElem_mem _)))) Parts.none ?_
           rintro v24 I24 _ hI24 ⟨rfl, rfl⟩)
        | (refine op_skip rfl rfl (by simp [undef]) rfl ?_)
      first
        | (refine op_want rfl rfl ?_
           first | refine op_v (v_cmpt rfl rfl rfl (by first | omega | (simp; done) | (simp; omega))) rfl ?_ | refine op_v (v_cmpf rfl rfl rfl (by first | omega | (simp; done) | (simp; omega))) rfl ?_ | refine op_v (v_cmp rfl rfl rfl) rfl ?_)
        | (refine op_skip rfl rfl (by simp [undef]) rfl ?_)
      first | refine op_v (v_pickt rfl rfl) rfl ?_ | refine op_v (v_pickf rfl rfl) rfl ?_ | refine op_v (v_pickb rfl rfl rfl) rfl ?_
      refine op_v (v_move rfl) rfl ?_
      first
        | (refine op_want rfl rfl ?_
           first | refine op_v (v_fieldB 1 Try.underlying88 rfl rfl fz24 rfl) rfl ?_ | refine op_v (v_fieldI 1 Try.underlying88 rfl rfl fz24 rfl (by assumption)) rfl ?_ | refine op_v (v_field Try.underlying88 rfl fz24 rfl rfl) rfl ?_)
        | (refine op_skip rfl rfl (by simp [undef]) rfl ?_)
      first
        | (refine op_want rfl rfl ?_
           first | refine op_v (v_fieldB 0 Try.underlying24 rfl rfl fz3 rfl) rfl ?_ | refine op_v (v_fieldI 0 Try.underlying24 rfl rfl fz3 rfl (by assumption)) rfl ?_ | refine op_v (v_field Try.underlying24 rfl fz3 rfl rfl) rfl ?_)
        | (refine op_skip rfl rfl (by simp [undef]) rfl ?_)
      first
        | (refine op_want rfl rfl ?_
           refine op_v (v_load ty3 rfl (by repeat (first | exact Has.here | apply Has.there)) rfl) rfl ?_)
        | (refine op_skip rfl rfl (by simp [undef]) rfl ?_)
      first
        | (refine op_want rfl rfl ?_
           first | refine op_v (v_fieldB 0 Try.underlying88 rfl rfl fz3 rfl) rfl ?_ | refine op_v (v_fieldI 0 Try.underlying88 rfl rfl fz3 rfl (by assumption)) rfl ?_ | refine op_v (v_field Try.underlying88 rfl fz3 rfl rfl) rfl ?_)
        | (refine op_skip rfl rfl (by simp [undef]) rfl ?_)
      first
        | (refine op_want rfl rfl ?_
           refine op_v (v_load ty3 rfl (by repeat (first | exact Has.here | apply Has.there)) rfl) rfl ?_)
        | (refine op_skip rfl rfl (by simp [undef]) rfl ?_)
      first
        | (refine op_want rfl rfl ?_
           first | refine op_v (v_subb rfl rfl rfl (by omega)) rfl ?_ | refine op_v (v_sub rfl rfl) rfl ?_)
        | (refine op_skip rfl rfl (by simp [undef]) rfl ?_)
      first
        | (refine op_want rfl rfl ?_
           first | refine op_v (v_cmpt rfl rfl rfl (by first | omega | (simp; done) | (simp; omega))) rfl ?_ | refine op_v (v_cmpf rfl rfl rfl (by first | omega | (simp; done) | (simp; omega))) rfl ?_ | refine op_v (v_cmp rfl rfl rfl) rfl ?_)
        | (refine op_skip rfl rfl (by simp [undef]) rfl ?_)
      first | refine op_v (v_pickt rfl rfl) rfl ?_ | refine op_v (v_pickf rfl rfl) rfl ?_ | refine op_v (v_pickb rfl rfl rfl) rfl ?_
      refine ops_nil ?_
      refine post_next ?_
      refine code_cond_t rfl ?_
      refine code_seq ?_
      refine code_region ?_
      refine op_v (v_assign rfl) rfl ?_
      refine ops_nil ?_
      refine post_next ?_
      refine code_ret ?_
      refine post_ret_then ?_
      refine post_ret_block ?_
      refine post_ret_then ?_
      refine post_ret_then ?_
      refine post_ret_block ?_
      refine post_ret_then ?_
      refine post_ret (rs := [.tmp 2]) rfl (List.Perm.refl _) (.cons (.tmp rfl) .nil) (List.nil_sublist _) ?_
      exact ⟨⟨1, rfl, .inr ⟨rfl, fun h => by have := h k hlt; rw [← hlast] at this; simp [badBi, h15] at this⟩⟩, rfl⟩
    · first | refine op_v (v_cmpt rfl rfl rfl (by first | omega | (simp; done) | (simp; omega))) rfl ?_ | refine op_v (v_cmpf rfl rfl rfl (by first | omega | (simp; done) | (simp; omega))) rfl ?_ | refine op_v (v_cmp rfl rfl rfl) rfl ?_
      refine op_v (v_move rfl) rfl ?_
      first
        | (refine op_want rfl rfl ?_
           first | refine op_v (v_fieldB 0 Try.underlying88 rfl rfl fz3 rfl) rfl ?_ | refine op_v (v_fieldI 0 Try.underlying88 rfl rfl fz3 rfl (by assumption)) rfl ?_ | refine op_v (v_field Try.underlying88 rfl fz3 rfl rfl) rfl ?_)
        | (refine op_skip rfl rfl (by simp [undef]) rfl ?_)
      first
        | (refine op_want rfl rfl ?_
           refine op_v (v_load ty3 rfl (by repeat (first | exact Has.here | apply Has.there)) rfl) rfl ?_)
        | (refine op_skip rfl rfl (by simp [undef]) rfl ?_)
      by_cases h19 : 255 < bs[k].1
      · first
          | (refine op_want rfl rfl ?_
             first | refine op_v (v_cmpt rfl rfl rfl (by first | omega | (simp; done) | (simp; omega))) rfl ?_ | refine op_v (v_cmpf rfl rfl rfl (by first | omega | (simp; done) | (simp; omega))) rfl ?_ | refine op_v (v_cmp rfl rfl rfl) rfl ?_)
          | (refine op_skip rfl rfl (by simp [undef]) rfl ?_)
        first | refine op_v (v_pickt rfl rfl) rfl ?_ | refine op_v (v_pickf rfl rfl) rfl ?_ | refine op_v (v_pickb rfl rfl rfl) rfl ?_
        refine op_v (v_move rfl) rfl ?_
        first
          | (refine op_want rfl rfl ?_
             first | refine op_v (v_fieldB 1 Try.underlying88 rfl rfl fz24 rfl) rfl ?_ | refine op_v (v_fieldI 1 Try.underlying88 rfl rfl fz24 rfl (by assumption)) rfl ?_ | refine op_v (v_field Try.underlying88 rfl fz24 rfl rfl) rfl ?_)
          | (refine op_skip rfl rfl (by simp [undef]) rfl ?_)
        first
          | (refine op_want rfl rfl ?_
             refine op_v (v_load ty24 rfl (by repeat (first | exact Has.here | apply Has.there)) rfl) rfl ?_)
          | (refine op_skip rfl rfl (by simp [undef]) rfl ?_)
        first
          | (refine op_want rfl rfl ?_
             refine op_call pl43 rfl rfl ((TCheck_does ((hsub k hlt).mono hI0) (hbig _ (List.getElem_mem _)))) Parts.none ?_
             rintro v24 I24 _ hI24 ⟨rfl, rfl⟩)
          | (refine op_skip rfl rfl (by simp [undef]) rfl ?_)
        first
          | (refine op_want rfl rfl ?_
             first | refine op_v (v_cmpt rfl rfl rfl (by first | omega | (simp; done) | (simp; omega))) rfl ?_ | refine op_v (v_cmpf rfl rfl rfl (by first | omega | (simp; done) | (simp; omega))) rfl ?_ | refine op_v (v_cmp rfl rfl rfl) rfl ?_)
          | (refine op_skip rfl rfl (by simp [undef]) rfl ?_)
        first | refine op_v (v_pickt rfl rfl) rfl ?_ | refine op_v (v_pickf rfl rfl) rfl ?_ | refine op_v (v_pickb rfl rfl rfl) rfl ?_
        refine op_v (v_move rfl) rfl ?_
        first
          | (refine op_want rfl rfl ?_
             first | refine op_v (v_fieldB 1 Try.underlying88 rfl rfl fz24 rfl) rfl ?_ | refine op_v (v_fieldI 1 Try.underlying88 rfl rfl fz24 rfl (by assumption)) rfl ?_ | refine op_v (v_field Try.underlying88 rfl fz24 rfl rfl) rfl ?_)
          | (refine op_skip rfl rfl (by simp [undef]) rfl ?_)
        first
          | (refine op_want rfl rfl ?_
             first | refine op_v (v_fieldB 0 Try.underlying24 rfl rfl fz3 rfl) rfl ?_ | refine op_v (v_fieldI 0 Try.underlying24 rfl rfl fz3 rfl (by assumption)) rfl ?_ | refine op_v (v_field Try.underlying24 rfl fz3 rfl rfl) rfl ?_)
          | (refine op_skip rfl rfl (by simp [undef]) rfl ?_)
        first
          | (refine op_want rfl rfl ?_
             refine op_v (v_load ty3 rfl (by repeat (first | exact Has.here | apply Has.there)) rfl) rfl ?_)
          | (refine op_skip rfl rfl (by simp [undef]) rfl ?_)
        first
          | (refine op_want rfl rfl ?_
             first | refine op_v (v_fieldB 0 Try.underlying88 rfl rfl fz3 rfl) rfl ?_ | refine op_v (v_fieldI 0 Try.underlying88 rfl rfl fz3 rfl (by assumption)) rfl ?_ | refine op_v (v_field Try.underlying88 rfl fz3 rfl rfl) rfl ?_)
          | (refine op_skip rfl rfl (by simp [undef]) rfl ?_)
        first
          | (refine op_want rfl rfl ?_
             refine op_v (v_load ty3 rfl (by repeat (first | exact Has.here | apply Has.there)) rfl) rfl ?_)
          | (refine op_skip rfl rfl (by simp [undef]) rfl ?_)
        first
          | (refine op_want rfl rfl ?_
             first | refine op_v (v_subb rfl rfl rfl (by omega)) rfl ?_ | refine op_v (v_sub rfl rfl) rfl ?_)
          | (refine op_skip rfl rfl (by simp [undef]) rfl ?_)
        first
          | (refine op_want rfl rfl ?_
             first | refine op_v (v_cmpt rfl rfl rfl (by first | omega | (simp; done) | (simp; omega))) rfl ?_ | refine op_v (v_cmpf rfl rfl rfl (by first | omega | (simp; done) | (simp; omega))) rfl ?_ | refine op_v (v_cmp rfl rfl rfl) rfl ?_)
          | (refine op_skip rfl rfl (by simp [undef]) rfl ?_)
        first | refine op_v (v_pickt rfl rfl) rfl ?_ | refine op_v (v_pickf rfl rfl) rfl ?_ | refine op_v (v_pickb rfl rfl rfl) rfl ?_
        refine ops_nil ?_
        refine post_next ?_
        refine code_cond_t rfl ?_
        refine code_seq ?_
        refine code_region ?_
        refine op_v (v_assign rfl) rfl ?_
        refine ops_nil ?_
        refine post_next ?_
        refine code_ret ?_
        refine post_ret_then ?_
        refine post_ret_block ?_
        refine post_ret_then ?_
        refine post_ret_then ?_
        refine post_ret_block ?_
        refine post_ret_then ?_
        refine post_ret (rs := [.tmp 2]) rfl (List.Perm.refl _) (.cons (.tmp rfl) .nil) (List.nil_sublist _) ?_
        exact ⟨⟨1, rfl, .inr ⟨rfl, fun h => by have := h k hlt; rw [← hlast] at this; simp [badBi, h19] at this⟩⟩, rfl⟩
      · first
          | (refine op_want rfl rfl ?_
             first | refine op_v (v_cmpt rfl rfl rfl (by first | omega | (simp; done) | (simp; omega))) rfl ?_ | refine op_v (v_cmpf rfl rfl rfl (by first | omega | (simp; done) | (simp; omega))) rfl ?_ | refine op_v (v_cmp rfl rfl rfl) rfl ?_)
          | (refine op_skip rfl rfl (by simp [undef]) rfl ?_)
        first | refine op_v (v_pickt rfl rfl) rfl ?_ | refine op_v (v_pickf rfl rfl) rfl ?_ | refine op_v (v_pickb rfl rfl rfl) rfl ?_
        refine op_v (v_move rfl) rfl ?_
        first
          | (refine op_want rfl rfl ?_
             first | refine op_v (v_fieldB 1 Try.underlying88 rfl rfl fz24 rfl) rfl ?_ | refine op_v (v_fieldI 1 Try.underlying88 rfl rfl fz24 rfl (by assumption)) rfl ?_ | refine op_v (v_field Try.underlying88 rfl fz24 rfl rfl) rfl ?_)
          | (refine op_skip rfl rfl (by simp [undef]) rfl ?_)
        first
          | (refine op_want rfl rfl ?_
             refine op_v (v_load ty24 rfl (by repeat (first | exact Has.here | apply Has.there)) rfl) rfl ?_)
          | (refine op_skip rfl rfl (by simp [undef]) rfl ?_)
        first
          | (refine op_want rfl rfl ?_
             refine op_call pl43 rfl rfl ((TCheck_does ((hsub k hlt).mono hI0) (hbig _ (List.getElem_mem _)))) Parts.none ?_
             rintro v24 I24 _ hI24 ⟨rfl, rfl⟩)
          | (refine op_skip rfl rfl (by simp [undef]) rfl ?_)
        by_cases h25 : chkT bs[k].2 ≠ 0
        · first
            | (refine op_want rfl rfl ?_
               first | refine op_v (v_cmpt rfl rfl rfl (by first | omega | (simp; done) | (simp; omega))) rfl ?_ | refine op_v (v_cmpf rfl rfl rfl (by first | omega | (simp; done) | (simp; omega))) rfl ?_ | refine op_v (v_cmp rfl rfl rfl) rfl ?_)
            | (refine op_skip rfl rfl (by simp [undef]) rfl ?_)
          first | refine op_v (v_pickt rfl rfl) rfl ?_ | refine op_v (v_pickf rfl rfl) rfl ?_ | refine op_v (v_pickb rfl rfl rfl) rfl ?_
          refine op_v (v_move rfl) rfl ?_
          first
            | (refine op_want rfl rfl ?_
               first | refine op_v (v_fieldB 1 Try.underlying88 rfl rfl fz24 rfl) rfl ?_ | refine op_v (v_fieldI 1 Try.underlying88 rfl rfl fz24 rfl (by assumption)) rfl ?_ | refine op_v (v_field Try.underlying88 rfl fz24 rfl rfl) rfl ?_)
            | (refine op_skip rfl rfl (by simp [undef]) rfl ?_)
          first
            | (refine op_want rfl rfl ?_
               first | refine op_v (v_fieldB 0 Try.underlying24 rfl rfl fz3 rfl) rfl ?_ | refine op_v (v_fieldI 0 Try.underlying24 rfl rfl fz3 rfl (by assumption)) rfl ?_ | refine op_v (v_field Try.underlying24 rfl fz3 rfl rfl) rfl ?_)
            | (refine op_skip rfl rfl (by simp [undef]) rfl ?_)
          first
            | (refine op_want rfl rfl ?_
               refine op_v (v_load ty3 rfl (by repeat (first | exact Has.here | apply Has.there)) rfl) rfl ?_)
            | (refine op_skip rfl rfl (by simp [undef]) rfl ?_)
          first
            | (refine op_want rfl rfl ?_
               first | refine op_v (v_fieldB 0 Try.underlying88 rfl rfl fz3 rfl) rfl ?_ | refine op_v (v_fieldI 0 Try.underlying88 rfl rfl fz3 rfl (by assumption)) rfl ?_ | refine op_v (v_field Try.underlying88 rfl fz3 rfl rfl) rfl ?_)
            | (refine op_skip rfl rfl (by simp [undef]) rfl ?_)
          first
            | (refine op_want rfl rfl ?_
               refine op_v (v_load ty3 rfl (by repeat (first | exact Has.here | apply Has.there)) rfl) rfl ?_)
            | (refine op_skip rfl rfl (by simp [undef]) rfl ?_)
          first
            | (refine op_want rfl rfl ?_
               first | refine op_v (v_subb rfl rfl rfl (by omega)) rfl ?_ | refine op_v (v_sub rfl rfl) rfl ?_)
            | (refine op_skip rfl rfl (by simp [undef]) rfl ?_)
          first
            | (refine op_want rfl rfl ?_
               first | refine op_v (v_cmpt rfl rfl rfl (by first | omega | (simp; done) | (simp; omega))) rfl ?_ | refine op_v (v_cmpf rfl rfl rfl (by first | omega | (simp; done) | (simp; omega))) rfl ?_ | refine op_v (v_cmp rfl rfl rfl) rfl ?_)
            | (refine op_skip rfl rfl (by simp [undef]) rfl ?_)
          first | refine op_v (v_pickt rfl rfl) rfl ?_ | refine op_v (v_pickf rfl rfl) rfl ?_ | refine op_v (v_pickb rfl rfl rfl) rfl ?_
          refine ops_nil ?_
          refine post_next ?_
          refine code_cond_t rfl ?_
          refine code_seq ?_
          refine code_region ?_
          refine op_v (v_assign rfl) rfl ?_
          refine ops_nil ?_
          refine post_next ?_
          refine code_ret ?_
          refine post_ret_then ?_
          refine post_ret_block ?_
          refine post_ret_then ?_
          refine post_ret_then ?_
          refine post_ret_block ?_
          refine post_ret_then ?_
          refine post_ret (rs := [.tmp 2]) rfl (List.Perm.refl _) (.cons (.tmp rfl) .nil) (List.nil_sublist _) ?_
          exact ⟨⟨1, rfl, .inr ⟨rfl, fun h => by have := h k hlt; rw [← hlast] at this; simp [badBi, h25] at this⟩⟩, rfl⟩
        · first
            | (refine op_want rfl rfl ?_
               first | refine op_v (v_cmpt rfl rfl rfl (by first | omega | (simp; done) | (simp; omega))) rfl ?_ | refine op_v (v_cmpf rfl rfl rfl (by first | omega | (simp; done) | (simp; omega))) rfl ?_ | refine op_v (v_cmp rfl rfl rfl) rfl ?_)
            | (refine op_skip rfl rfl (by simp [undef]) rfl ?_)
          first | refine op_v (v_pickt rfl rfl) rfl ?_ | refine op_v (v_pickf rfl rfl) rfl ?_ | refine op_v (v_pickb rfl rfl rfl) rfl ?_
          refine op_v (v_move rfl) rfl ?_
          first
            | (refine op_want rfl rfl ?_
               first | refine op_v (v_fieldB 1 Try.underlying88 rfl rfl fz24 rfl) rfl ?_ | refine op_v (v_fieldI 1 Try.underlying88 rfl rfl fz24 rfl (by assumption)) rfl ?_ | refine op_v (v_field Try.underlying88 rfl fz24 rfl rfl) rfl ?_)
            | (refine op_skip rfl rfl (by simp [undef]) rfl ?_)
          first
            | (refine op_want rfl rfl ?_
               first | refine op_v (v_fieldB 0 Try.underlying24 rfl rfl fz3 rfl) rfl ?_ | refine op_v (v_fieldI 0 Try.underlying24 rfl rfl fz3 rfl (by assumption)) rfl ?_ | refine op_v (v_field Try.underlying24 rfl fz3 rfl rfl) rfl ?_)
            | (refine op_skip rfl rfl (by simp [undef]) rfl ?_)
          first
            | (refine op_want rfl rfl ?_
               refine op_v (v_load ty3 rfl (by repeat (first | exact Has.here | apply Has.there)) rfl) rfl ?_)
            | (refine op_skip rfl rfl (by simp [undef]) rfl ?_)
          first
            | (refine op_want rfl rfl ?_
               first | refine op_v (v_fieldB 0 Try.underlying88 rfl rfl fz3 rfl) rfl ?_ | refine op_v (v_fieldI 0 Try.underlying88 rfl rfl fz3 rfl (by assumption)) rfl ?_ | refine op_v (v_field Try.underlying88 rfl fz3 rfl rfl) rfl ?_)
            | (refine op_skip rfl rfl (by simp [undef]) rfl ?_)
          first
            | (refine op_want rfl rfl ?_
               refine op_v (v_load ty3 rfl (by repeat (first | exact Has.here | apply Has.there)) rfl) rfl ?_)
            | (refine op_skip rfl rfl (by simp [undef]) rfl ?_)
          first
            | (refine op_want rfl rfl ?_
               first | refine op_v (v_subb rfl rfl rfl (by omega)) rfl ?_ | refine op_v (v_sub rfl rfl) rfl ?_)
            | (refine op_skip rfl rfl (by simp [undef]) rfl ?_)
          by_cases h34 : bs[k].2.head = -1 - bs[k].1
          · first
              | (refine op_want rfl rfl ?_
                 first | refine op_v (v_cmpt rfl rfl rfl (by first | omega | (simp; done) | (simp; omega))) rfl ?_ | refine op_v (v_cmpf rfl rfl rfl (by first | omega | (simp; done) | (simp; omega))) rfl ?_ | refine op_v (v_cmp rfl rfl rfl) rfl ?_)
              | (refine op_skip rfl rfl (by simp [undef]) rfl ?_)
            first | refine op_v (v_pickt rfl rfl) rfl ?_ | refine op_v (v_pickf rfl rfl) rfl ?_ | refine op_v (v_pickb rfl rfl rfl) rfl ?_
            refine ops_nil ?_
            refine post_next ?_
            refine code_cond_t rfl ?_
            refine code_seq ?_
            refine code_region ?_
            refine op_v (v_assign rfl) rfl ?_
            refine ops_nil ?_
            refine post_next ?_
            refine code_ret ?_
            refine post_ret_then ?_
            refine post_ret_block ?_
            refine post_ret_then ?_
            refine post_ret_then ?_
            refine post_ret_block ?_
            refine post_ret_then ?_
            refine post_ret (rs := [.tmp 2]) rfl (List.Perm.refl _) (.cons (.tmp rfl) .nil) (List.nil_sublist _) ?_
            exact ⟨⟨1, rfl, .inr ⟨rfl, fun h => by have := h k hlt; rw [← hlast] at this; simp [badBi, h34] at this⟩⟩, rfl⟩
          · first
              | (refine op_want rfl rfl ?_
                 first | refine op_v (v_cmpt rfl rfl rfl (by first | omega | (simp; done) | (simp; omega))) rfl ?_ | refine op_v (v_cmpf rfl rfl rfl (by first | omega | (simp; done) | (simp; omega))) rfl ?_ | refine op_v (v_cmp rfl rfl rfl) rfl ?_)
              | (refine op_skip rfl rfl (by simp [undef]) rfl ?_)
            first | refine op_v (v_pickt rfl rfl) rfl ?_ | refine op_v (v_pickf rfl rfl) rfl ?_ | refine op_v (v_pickb rfl rfl rfl) rfl ?_
            refine ops_nil ?_
            refine post_next ?_
            refine code_cond_f rfl ?_
            refine code_skip ?_
            refine post_next ?_
            refine code_region ?_
            first | refine op_v (v_fieldB 0 Try.underlying88 rfl rfl fz3 rfl) rfl ?_ | refine op_v (v_fieldI 0 Try.underlying88 rfl rfl fz3 rfl (by assumption)) rfl ?_ | refine op_v (v_field Try.underlying88 rfl fz3 rfl rfl) rfl ?_
            refine op_v (v_load ty3 rfl (by repeat (first | exact Has.here | apply Has.there)) rfl) rfl ?_
            refine op_v (v_assign rfl) rfl ?_
            refine ops_nil ?_
            refine post_out ?_
            refine post_next ?_
            refine code_region ?_
            first | refine op_v (v_addb rfl rfl rfl (by omega)) rfl ?_ | refine op_v (v_add rfl rfl) rfl ?_
            refine op_v (v_move rfl) rfl ?_
            refine ops_nil ?_
            refine PostJ.view (View.drop Del.here) ?_
            refine post_again (bs.length - (k + 1)) [(3, .int .i64 bs[k].1), (6, .slice ad bs.length c), (7, .int .i64 bs.length), (8, .int .i64 (k + 1 : Nat))] (by omega) ⟨k + 1, bs[k].1, rfl, hlt, rfl, (by repeat (first | exact Imm.le_refl _ | assumption | refine Imm.le_trans ?_ (by assumption))), rfl, by simp [List.getElem?_eq_getElem hlt], ?_⟩ ⟨rfl, rfl, rfl, rfl, trivial⟩
            intro i h hi
            rcases Nat.lt_or_ge i k with hik | hik
            · exact hp i h hik
            have hik2 : i = k := by omega
            subst hik2
            rw [← hlast]
            simp [badBi, h25, h34]
            omega
  · have hge : k = bs.length := by simp at hc0; omega
    refine code_exit ?_
    refine post_exit_then ?_
    refine post_exit_then ?_
    refine post_exit ?_
    refine post_next ?_
    refine code_seq ?_
    refine code_region ?_
    refine op_v (v_assign rfl) rfl ?_
    refine ops_nil ?_
    refine post_next ?_
    refine code_ret ?_
    refine post_ret (rs := [.tmp 2]) rfl (List.Perm.refl _) (.cons (.tmp rfl) .nil) (List.nil_sublist _) ?_
    exact ⟨⟨0, rfl, .inl ⟨rfl, fun i h => hp i h (by omega)⟩⟩, rfl⟩
theorem end_does {I : Imm} {v : Value} {t : T} (hv : RepT I v t) (hbig : t.size ≤ 1000000000) :
    Does Try.prog 72 [v] I [] (fun v I' δ' => (∃ u, v = .tuple #[u, .int .i64 (chkT t)] ∧ RepT I' u (if chkT t = 0 then t else zeroT)) ∧ δ' = []) := by
  obtain ⟨a0, c0, rfl, hr0⟩ := hv.shape
  refine Does.intro Try.func72 rfl Try.ntmps72 rfl fun w0 => ?_
  refine code_seq ?_
  refine code_region ?_
  refine o_box rfl rfl rfl (fun b1 => ?_)
  refine o_alloc z24 rfl rfl (fun b2 => ?_)
  refine op_v (v_assign rfl) rfl ?_
  refine ops_nil ?_
  refine post_next ?_
  refine code_seq ?_
  refine code_seq ?_
  refine code_region ?_
  refine op_v (v_load ty24 rfl (by repeat (first | exact Has.here | apply Has.there)) rfl) rfl ?_
  refine op_call pl43 rfl rfl ((TCheck_does hv hbig)) Parts.none ?_
  rintro v6 I6 _ hI6 ⟨rfl, rfl⟩
  refine op_v (v_assign rfl) rfl ?_
  refine ops_nil ?_
  refine post_next ?_
  refine code_seq ?_
  refine code_region ?_
  refine op_v (v_move rfl) rfl ?_
  by_cases h8 : chkT t ≠ 0
  · first | refine op_v (v_cmpt rfl rfl rfl (by first | omega | (simp; done) | (simp; omega))) rfl ?_ | refine op_v (v_cmpf rfl rfl rfl (by first | omega | (simp; done) | (simp; omega))) rfl ?_ | refine op_v (v_cmp rfl rfl rfl) rfl ?_
    refine ops_nil ?_
    refine post_next ?_
    refine code_cond_t rfl ?_
    refine code_seq ?_
    refine code_region ?_
    refine op_v (v_build bl24 rfl rfl) rfl ?_
    refine op_v (v_move rfl) rfl ?_
    refine o_store ty24 rfl rfl rfl rfl rfl (by repeat (first | exact Swap.here | apply Swap.there)) rfl ?_
    refine op_v (v_assign rfl) rfl ?_
    refine ops_nil ?_
    refine post_next ?_
    refine code_ret ?_
    refine post_ret_then ?_
    refine post_ret (rs := [.cell 2 24, .tmp 3]) rfl (List.Perm.refl _) (.cons (.cell rfl ty24 (by repeat (first | exact Has.here | apply Has.there)) rfl) (.cons (.tmp rfl) .nil)) (List.nil_sublist _) ?_
    exact ⟨⟨_, rfl, by rw [if_neg h8]; exact zeroT_rep _⟩, rfl⟩
  · first | refine op_v (v_cmpt rfl rfl rfl (by first | omega | (simp; done) | (simp; omega))) rfl ?_ | refine op_v (v_cmpf rfl rfl rfl (by first | omega | (simp; done) | (simp; omega))) rfl ?_ | refine op_v (v_cmp rfl rfl rfl) rfl ?_
    refine ops_nil ?_
    refine post_next ?_
    refine code_cond_f rfl ?_
    refine code_skip ?_
    refine post_next ?_
    refine code_seq ?_
    refine code_region ?_
    refine op_v (v_load ty24 rfl (by repeat (first | exact Has.here | apply Has.there)) rfl) rfl ?_
    refine o_store ty24 rfl rfl rfl rfl rfl (by repeat (first | exact Swap.here | apply Swap.there)) rfl ?_
    refine op_v (v_assign rfl) rfl ?_
    refine ops_nil ?_
    refine post_next ?_
    refine code_ret ?_
    refine post_ret (rs := [.cell 2 24, .tmp 3]) rfl (List.Perm.refl _) (.cons (.cell rfl ty24 (by repeat (first | exact Has.here | apply Has.there)) rfl) (.cons (.tmp rfl) .nil)) (List.nil_sublist _) ?_
    have h8' : chkT t = 0 := by simpa using h8
    exact ⟨⟨_, by rw [h8']; rfl, by rw [if_pos h8']; exact hv.mono hI6⟩, rfl⟩
theorem Of_does {I : Imm} {v : Value} {bs : List Bi} {x : Int} (hv : RepB I v bs) (h0 : 0 ≤ x) (h1 : x ≤ 1000000000) :
    Does Try.prog 49 [v, .int .i64 x] I [] (fun v I' δ' => RepT I' v (ofT bs (.mk (-1 - x) [])) ∧ δ' = []) := by
  refine Does.intro Try.func49 rfl Try.ntmps49 rfl fun w0 => ?_
  refine code_seq ?_
  refine code_region ?_
  refine o_alloc z24 rfl rfl (fun b4 => ?_)
  refine ops_nil ?_
  refine post_next ?_
  refine code_seq ?_
  refine code_region ?_
  refine op_v (v_move rfl) rfl ?_
  refine op_call pl74 rfl rfl ((open_does hv)) Parts.none ?_
  rintro v6 I6 _ hI6 ⟨b6, xs6, rfl, rfl, hM⟩
  refine op_v (v_move rfl) rfl ?_
  first | refine op_v (v_subb rfl rfl rfl (by omega)) rfl ?_ | refine op_v (v_sub rfl rfl) rfl ?_
  refine op_v (v_build bl24 rfl rfl) rfl ?_
  refine op_call pl75 rfl rfl ((of_does (t := .mk (-1 - x) []) (RepT.mk _ (.mk (-1 - x) []) (by show InR (-1 - x); unfold InR; omega) (RepS.nil _)) hM)) (Parts.one Del.here) ?_
  rintro v10 I10 _ hI10 ⟨hv10, rfl⟩
  obtain ⟨a10, c10, rfl, _⟩ := hv10.shape
  refine o_store ty24 rfl rfl rfl rfl rfl (by repeat (first | exact Swap.here | apply Swap.there)) rfl ?_
  refine ops_nil ?_
  refine post_next ?_
  refine code_ret ?_
  refine post_ret (rs := [.cell 4 24]) rfl (List.Perm.refl _) (.cons (.cell rfl ty24 (by repeat (first | exact Has.here | apply Has.there)) rfl) .nil) (List.nil_sublist _) ?_
  exact ⟨hv10, rfl⟩
end Go.Proofs.Ytdcklngleglbbaa
