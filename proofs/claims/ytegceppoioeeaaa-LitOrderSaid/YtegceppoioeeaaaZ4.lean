/- Own texts, one behind the other: rules of a small program logic, walks through the program's functions, plain facts. No condition. -/
import Derived.Test.YtegceppoioeeaaaZ3
/- Plain facts on places: what is put is there, what is apart stays. No condition. -/
set_option linter.unusedVariables false
set_option linter.unusedSimpArgs false
namespace Go.Proofs.Ytegceppoioeeaaa
open Go Lg

theorem putT_c (t u : T) (i : Nat) (r : List Int) (h : i < t.args.length) : putT t ((i : Int) :: r) u = .mk t.head (t.args.set i (putT t.args[i] r u)) := by
  simp [putT, h]
theorem atT_i (t : T) (i : Nat) (r : List Int) (h : i < t.args.length) : atT t ((i : Int) :: r) = atT t.args[i] r := by
  rw [atT_c]; simp [h]
theorem atT_put : ∀ (p : List Int) (t u : T), (atT t p).isSome = true → atT (putT t p u) p = some u
  | [], t, u, _ => by simp [atT, putT]
  | x :: r, t, u, h => by
    obtain ⟨i, rfl, hi, hs⟩ := atT_cons h
    rw [putT_c t u i r hi, atT_i _ i r (by simp [T.args]; exact hi)]
    have e : (T.mk t.head (t.args.set i (putT t.args[i] r u))).args[i]'(by simp [T.args]; exact hi) = putT t.args[i] r u := by simp [T.args]
    rw [e]
    exact atT_put r _ u hs
theorem putT_at : ∀ (p : List Int) (t o : T), atT t p = some o → putT t p o = t
  | [], t, o, h => by simp [atT] at h; simp [putT, h]
  | x :: r, t, o, h => by
    obtain ⟨i, rfl, hi, hs⟩ := atT_cons (t := t) (x := x) (r := r) (by rw [h]; rfl)
    rw [atT_i t i r hi] at h
    rw [putT_c t o i r hi, putT_at r _ o h, List.set_getElem_self]
    cases t; rfl
theorem under_c (i : Int) (r s : List Int) : underL (i :: r) (i :: s) = underL r s := by simp [underL]
theorem under_nil (q : List Int) : underL [] q = true := by simp [underL]
theorem atT_apart : ∀ (p q : List Int) (t u : T), (atT t p).isSome = true → underL p q = false → underL q p = false → atT (putT t p u) q = atT t q
  | [], q, t, u, _, h, _ => by rw [under_nil] at h; cases h
  | x :: r, [], t, u, _, _, h => by rw [under_nil] at h; cases h
  | x :: r, y :: s, t, u, hs, h1, h2 => by
    obtain ⟨i, rfl, hi, hs'⟩ := atT_cons hs
    rw [putT_c t u i r hi, atT_c, atT_c]
    by_cases hy : y = (i : Int)
    · subst hy
      rw [under_c] at h1 h2
      have := atT_apart r s _ u hs' h1 h2
      simp [T.args] at hi ⊢
      simpa [hi, T.args] using this
    · by_cases hyl : 0 ≤ y ∧ y.toNat < t.args.length
      · have hne : i ≠ y.toNat := by omega
        rw [dif_pos hyl, dif_pos ⟨hyl.1, by show y.toNat < (t.args.set i _).length; simp; exact hyl.2⟩]
        have e : (T.mk t.head (t.args.set i (putT t.args[i] r u))).args[y.toNat]'(by show y.toNat < (t.args.set i _).length; simp; exact hyl.2) = t.args[y.toNat]'hyl.2 := by
          show (t.args.set i _)[y.toNat]'_ = _
          exact List.getElem_set_ne hne _
        rw [e]
      · rw [dif_neg hyl, dif_neg (fun hh => hyl ⟨hh.1, by have : y.toNat < (t.args.set i (putT t.args[i] r u)).length := hh.2; simpa using this⟩)]
theorem putT_app : ∀ (p q : List Int) (t a u : T), atT t p = some a → putT t (p ++ q) u = putT t p (putT a q u)
  | [], q, t, a, u, h => by simp [atT] at h; subst h; simp [putT]
  | x :: r, q, t, a, u, h => by
    obtain ⟨i, rfl, hi, hs⟩ := atT_cons (t := t) (x := x) (r := r) (by rw [h]; rfl)
    rw [atT_i t i r hi] at h
    rw [List.cons_append, putT_c t _ i _ hi, putT_c t _ i _ hi, putT_app r q _ a u h]
theorem sizeL_set : ∀ (l : List T) (i : Nat) (x : T) (h : i < l.length), sizeL (l.set i x) + l[i].size = sizeL l + x.size
  | t :: r, 0, x, _ => by simp [sizeL]; omega
  | t :: r, i + 1, x, h => by
    have := sizeL_set r i x (by simpa using h)
    simp [sizeL]; omega
theorem size_eq (t : T) : t.size = 1 + sizeL t.args := by cases t; simp [T.size, T.args]
theorem putT_size : ∀ (p : List Int) (t u : T), (atT t p).isSome = true → (putT t p u).size ≤ t.size + u.size
  | [], t, u, _ => by simp [putT]
  | x :: r, t, u, h => by
    obtain ⟨i, rfl, hi, hs⟩ := atT_cons h
    have h1 := putT_size r _ u hs
    have h2 := sizeL_set t.args i (putT t.args[i] r u) hi
    have h3 := size_eq t
    rw [putT_c t u i r hi, T.size]; omega
theorem atT_size : ∀ (p : List Int) (t : T), ((atT t p).getD zeroT).size ≤ t.size
  | [], t => by simp [atT]
  | x :: r, t => by
    rw [atT_c]
    by_cases h : 0 ≤ x ∧ x.toNat < t.args.length
    · rw [dif_pos h]
      have h1 := atT_size r (t.args[x.toNat]'h.2)
      have h2 := sizeL_mem t.args x.toNat h.2
      have h3 := size_eq t
      omega
    · rw [dif_neg h]
      have := t.size_pos
      simpa [zeroT, T.size, sizeL] using this

/-! ### contracts, with their answers by name -/
theorem Few_is {I : Imm} {v : Value} {t : T} {b : Bool} (hv : RepT I v t) (h : decide (t.size ≤ 500) = b) :
    Does Try.prog 48 [v] I [] (fun v I' δ' => v = .bool b ∧ δ' = []) := by subst h; exact Few_does I v t hv
theorem Same_is {I : Imm} {v w : Value} {t u : T} (hv : RepT I v t) (hw : RepT I w u) (hbt : t.size ≤ 1000000000) (h : t = u) :
    Does Try.prog 60 [v, w] I [] (fun v I' δ' => v = .bool true ∧ δ' = []) := by
  subst h
  exact (Same_does I v w t t hv hw hbt hbt).mono fun _ _ _ _ ⟨h1, h2⟩ => ⟨by rw [h1]; simp, h2⟩
/-- a part, laid out -/
def OutT (g : T) (s : Value) (v : Value) (I : Imm) : Prop := ∃ a c, v = .tuple #[.agg #[.int .i64 g.head, .slice a g.args.length c], s] ∧ RepT I (.agg #[.int .i64 g.head, .slice a g.args.length c]) g
theorem At_is {I : Imm} {v vp : Value} {t : T} {p : List Int} {s : Bool} (hv : RepT I v t) (hp : RInts I vp p) (h : (atT t p).isSome = s) :
    Does Try.prog 41 [v, vp] I [] (fun v I' δ' => OutT ((atT t p).getD zeroT) (.bool s) v I' ∧ δ' = []) := by
  subst h
  exact (At_does p t I v vp hv hp).mono fun _ _ _ _ ⟨⟨u, h1, h2⟩, h3⟩ => by
    obtain ⟨a, c, rfl, _⟩ := h2.shape
    exact ⟨⟨a, c, h1, h2⟩, h3⟩
def outP (t : T) (p : List Int) (u : T) : T := if (atT t p).isSome then putT t p u else zeroT
theorem outP_size (t : T) (p : List Int) (u : T) : (outP t p u).size ≤ t.size + u.size := by
  unfold outP
  split
  · exact putT_size p t u ‹_›
  · have := t.size_pos; simp [zeroT, T.size, sizeL]; omega
theorem Put_is {I : Imm} {v vp vu : Value} {t u : T} {p : List Int} {s : Bool} (hv : RepT I v t) (hp : RInts I vp p) (hu : RepT I vu u) (h : (atT t p).isSome = s) :
    Does Try.prog 42 [v, vp, vu] I [] (fun v I' δ' => OutT (outP t p u) (.int .i64 (bif s then 0 else 6)) v I' ∧ δ' = []) := by
  subst h
  exact (Put_does p t u I v vp vu hv hp hu).mono fun _ _ _ _ ⟨⟨x, h1, h2⟩, h3⟩ => by
    change RepT _ x (outP t p u) at h2
    obtain ⟨a, c, rfl, _⟩ := h2.shape
    refine ⟨⟨a, c, ?_, h2⟩, h3⟩
    have e : (if (atT t p).isSome then (0 : Int) else 6) = bif (atT t p).isSome then 0 else 6 := by cases (atT t p).isSome <;> rfl
    rw [h1, e]
end Go.Proofs.Ytegceppoioeeaaa
/- Walks: the statement on how heavy parts are. -/
set_option linter.unusedVariables false
set_option linter.unusedSimpArgs false
namespace Go.Proofs.Ytegceppoioeeaaa
open Go Lg

def sumV (gs : List Sy) (l : List (Bool × T)) : Int := (l.map fun x => wB gs x.2.head).sum
theorem sumV_app (gs : List Sy) (a b : List (Bool × T)) : sumV gs (a ++ b) = sumV gs a + sumV gs b := by simp [sumV]
theorem wgtG_eq (gs : List Sy) (t : T) : wgtG gs t = wB gs t.head + sumV gs (visL t.args) := by
  unfold wgtG hds sumV
  rw [visT_eq, List.map_cons, List.map_cons, List.sum_cons, List.map_map]
  rfl
theorem sumV_T (gs : List Sy) (b : Bool) (t : T) : sumV gs (visT b t) = wgtG gs t := by
  rw [wgtG_eq, visT_eq]; simp [sumV]
theorem sumV_nonneg {gs : List Sy} (hr : rightG gs = true) : ∀ l : List (Bool × T), (∀ x ∈ l, x.2.head < 0 ∨ (0 ≤ x.2.head ∧ x.2.head < gs.length)) → (l.length : Int) ≤ sumV gs l
  | [], _ => by simp [sumV]
  | x :: r, h => by
    have h1 := wB_range hr (h x (List.mem_cons_self ..))
    have h2 := sumV_nonneg hr r (fun y hy => h y (List.mem_cons_of_mem _ hy))
    unfold sumV at *
    simp only [List.map_cons, List.sum_cons, List.length_cons]; omega
theorem visL_split (us : List T) (i : Nat) (hi : i < us.length) : visL us = visL (us.take i) ++ (visT false us[i] ++ visL (us.drop (i + 1))) := by
  conv => lhs; rw [← List.take_append_drop i us, List.drop_eq_getElem_cons hi]
  rw [visL_app]; rfl
theorem any_visT_unk (gs : List Sy) (a b : Bool) (t : T) : (visT a t).any (unkB gs) = (visT b t).any (unkB gs) := by
  rw [visT_eq, visT_eq]; rfl
theorem OkG.heads {gs : List Sy} {t : T} (h : OkG gs t) : ∀ x ∈ visT true t, x.2.head < 0 ∨ (0 ≤ x.2.head ∧ x.2.head < gs.length) :=
  fun x hx => h.head x.2.head (List.mem_map_of_mem (f := fun y : Bool × T => y.2.head) hx)
theorem OkG.child {gs : List Sy} {t : T} (h : OkG gs t) (i : Nat) (hi : i < t.args.length) : OkG gs t.args[i] ∧ wgtG gs t.args[i] < wgtG gs t := by
  obtain ⟨hd, us⟩ := t
  have hi' : i < us.length := hi
  have hs := visL_split us i hi'
  have hh := h.heads
  rw [visT_eq] at hh
  refine ⟨⟨h.right, chk_part h.chk i hi', ?_, ?_⟩, ?_⟩
  · have h1 := h.unk
    unfold unkG at h1 ⊢
    rw [visT_eq, List.any_cons, Bool.or_eq_false_iff] at h1
    have h2 := h1.2
    change (visL us).any (unkB gs) = false at h2
    rw [hs, List.any_append, List.any_append, Bool.or_eq_false_iff, Bool.or_eq_false_iff] at h2
    rw [any_visT_unk gs true false]
    exact h2.2.1
  · have h1 := h.mix
    unfold mixG at h1 ⊢
    rw [visT_eq, List.any_cons, Bool.or_eq_false_iff] at h1
    have h2 := h1.2
    change (visL us).any (mixB gs) = false at h2
    rw [hs, List.any_append, List.any_append, Bool.or_eq_false_iff, Bool.or_eq_false_iff] at h2
    have h3 := h2.2.1
    rw [visT_eq, List.any_cons, Bool.or_eq_false_iff] at h3
    rw [visT_eq, List.any_cons, Bool.or_eq_false_iff]
    exact ⟨by simp [mixB], h3.2⟩
  · have h1 := wB_range h.right (hh (true, .mk hd us) (List.mem_cons_self ..))
    have e : wgtG gs (T.mk hd us) = wB gs hd + sumV gs (visL us) := wgtG_eq gs _
    have h4 : ∀ x ∈ visL us, x.2.head < 0 ∨ (0 ≤ x.2.head ∧ x.2.head < gs.length) := fun x hx => hh x (List.mem_cons_of_mem _ hx)
    rw [e, hs, sumV_app, sumV_app, sumV_T]
    have h5 := sumV_nonneg h.right (visL (us.take i)) (fun x hx => h4 x (by rw [hs]; exact List.mem_append_left _ hx))
    have h6 := sumV_nonneg h.right (visL (us.drop (i + 1))) (fun x hx => h4 x (by rw [hs]; exact List.mem_append_right _ (List.mem_append_right _ hx)))
    have h7 : 1 ≤ wB gs hd := h1.1
    show wgtG gs us[i] < _
    omega
theorem OkG.at {gs : List Sy} : ∀ (p : List Int) {t u : T}, OkG gs t → atT t p = some u → OkG gs u ∧ (p = [] ∨ wgtG gs u < wgtG gs t)
  | [], t, u, h, hu => by simp [atT] at hu; subst hu; exact ⟨h, .inl rfl⟩
  | x :: r, t, u, h, hu => by
    rw [atT_c] at hu
    split at hu
    · rename_i hx
      obtain ⟨h1, h2⟩ := h.child x.toNat hx.2
      obtain ⟨h3, h4⟩ := OkG.at r h1 hu
      refine ⟨h3, .inr ?_⟩
      rcases h4 with rfl | h4
      · simp [atT] at hu; subst hu; exact h2
      · omega
    · cases hu

end Go.Proofs.Ytegceppoioeeaaa
/- Walks: a term with all put; how heavy that is. -/
set_option linter.unusedVariables false
set_option linter.unusedSimpArgs false
namespace Go.Proofs.Ytegceppoioeeaaa
open Go Lg

def OutA (bs : List Bi) (t : T) (e : Int) (u : T) : Prop := (e = 0 ∧ chkB bs ∧ chkT t = 0 ∧ u = sbT bs t ∧ chkT u = 0) ∨ (e ≠ 0 ∧ u = zeroT)
theorem Apply_does {I : Imm} {vs v : Value} {bs : List Bi} {t : T} (hs : RepB I vs bs) (hv : RepT I v t) (hbs : ∀ b ∈ bs, b.2.size ≤ 500) (ht : t.size ≤ 500) :
    Does Try.prog 44 [vs, v] I [] (fun v I' δ' => (∃ e u r, v = .tuple #[r, .int .i64 e] ∧ RepT I' r u ∧ OutA bs t e u) ∧ δ' = []) := by
  obtain ⟨a0, c0, rfl, hr0⟩ := hv.shape
  obtain ⟨sa, sc, rfl⟩ := hs.shape
  have hsz : (sbT bs t).size ≤ 1000000000 := by have := sbT_size (m := 500) (by omega) hbs t; omega
  refine Does.intro Try.func44 rfl Try.ntmps44 rfl fun w0 => ?_
  refine code_seq ?_
  refine code_region ?_
  refine o_box rfl rfl rfl (fun b3 => ?_)
  refine o_alloc z25 rfl rfl (fun b4 => ?_)
  refine op_v (v_assign rfl) rfl ?_
  refine ops_nil ?_
  refine post_next ?_
  refine code_seq ?_
  refine code_seq ?_
  refine code_region ?_
  refine op_v (v_move rfl) rfl ?_
  refine op_call pl80 rfl rfl ((SCheck_does hs (fun b hb => by have := hbs b hb; omega))) Parts.none ?_
  rintro v7 I7 _ hI7 ⟨⟨e7, rfl, he7⟩, rfl⟩
  by_cases h8 : e7 ≠ 0
  · first | refine op_v (v_cmpt rfl rfl rfl (by first | omega | (simp; done) | (simp; omega))) rfl ?_ | refine op_v (v_cmpf rfl rfl rfl (by first | omega | (simp; done) | (simp; omega))) rfl ?_ | refine op_v (v_cmp rfl rfl rfl) rfl ?_
    refine op_v (v_move rfl) rfl ?_
    first
      | (refine op_want rfl rfl ?_
         refine op_v (v_load ty25 rfl (by repeat (first | exact Has.here | apply Has.there)) rfl) rfl ?_)
      | (refine op_skip rfl rfl (by simp [undef]) rfl ?_)
    first
      | (refine op_want rfl rfl ?_
         refine op_call pl81 rfl rfl ((TCheck_does (hv.mono (by repeat (first | exact Imm.le_refl _ | assumption | refine Imm.le_trans ?_ (by assumption)))) (by omega))) Parts.none ?_
         rintro v11 I11 _ hI11 ⟨rfl, rfl⟩)
      | (refine op_skip rfl rfl (by simp [undef]) rfl ?_)
    first
      | (refine op_want rfl rfl ?_
         first | refine op_v (v_cmpt rfl rfl rfl (by first | omega | (simp; done) | (simp; omega))) rfl ?_ | refine op_v (v_cmpf rfl rfl rfl (by first | omega | (simp; done) | (simp; omega))) rfl ?_ | refine op_v (v_cmp rfl rfl rfl) rfl ?_)
      | (refine op_skip rfl rfl (by simp [undef]) rfl ?_)
    first | refine op_v (v_pickt rfl rfl) rfl ?_ | refine op_v (v_pickf rfl rfl) rfl ?_ | refine op_v (v_pickb rfl rfl rfl) rfl ?_
    refine ops_nil ?_
    refine post_next ?_
    refine code_cond_t rfl ?_
    refine code_seq ?_
    refine code_region ?_
    refine op_v (v_build bl25 rfl rfl) rfl ?_
    refine o_store ty25 rfl rfl rfl rfl rfl (by repeat (first | exact Swap.here | apply Swap.there)) rfl ?_
    refine op_v (v_assign rfl) rfl ?_
    refine ops_nil ?_
    refine post_next ?_
    refine code_ret ?_
    refine post_ret_then ?_
    refine post_ret (rs := [.cell 4 25, .tmp 5]) rfl (List.Perm.refl _) (.cons (.cell rfl ty25 (by repeat (first | exact Has.here | apply Has.there)) rfl) (.cons (.tmp rfl) .nil)) (List.nil_sublist _) ?_
    exact ⟨⟨1, zeroT, _, rfl, zeroT_rep _, .inr ⟨by omega, rfl⟩⟩, rfl⟩
  · first | refine op_v (v_cmpt rfl rfl rfl (by first | omega | (simp; done) | (simp; omega))) rfl ?_ | refine op_v (v_cmpf rfl rfl rfl (by first | omega | (simp; done) | (simp; omega))) rfl ?_ | refine op_v (v_cmp rfl rfl rfl) rfl ?_
    refine op_v (v_move rfl) rfl ?_
    first
      | (refine op_want rfl rfl ?_
         refine op_v (v_load ty25 rfl (by repeat (first | exact Has.here | apply Has.there)) rfl) rfl ?_)
      | (refine op_skip rfl rfl (by simp [undef]) rfl ?_)
    first
      | (refine op_want rfl rfl ?_
         refine op_call pl81 rfl rfl ((TCheck_does (hv.mono (by repeat (first | exact Imm.le_refl _ | assumption | refine Imm.le_trans ?_ (by assumption)))) (by omega))) Parts.none ?_
         rintro v11 I11 _ hI11 ⟨rfl, rfl⟩)
      | (refine op_skip rfl rfl (by simp [undef]) rfl ?_)
    by_cases h12 : chkT t ≠ 0
    · first
        | (refine op_want rfl rfl ?_
           first | refine op_v (v_cmpt rfl rfl rfl (by first | omega | (simp; done) | (simp; omega))) rfl ?_ | refine op_v (v_cmpf rfl rfl rfl (by first | omega | (simp; done) | (simp; omega))) rfl ?_ | refine op_v (v_cmp rfl rfl rfl) rfl ?_)
        | (refine op_skip rfl rfl (by simp [undef]) rfl ?_)
      first | refine op_v (v_pickt rfl rfl) rfl ?_ | refine op_v (v_pickf rfl rfl) rfl ?_ | refine op_v (v_pickb rfl rfl rfl) rfl ?_
      refine ops_nil ?_
      refine post_next ?_
      refine code_cond_t rfl ?_
      refine code_seq ?_
      refine code_region ?_
      refine op_v (v_build bl25 rfl rfl) rfl ?_
      refine o_store ty25 rfl rfl rfl rfl rfl (by repeat (first | exact Swap.here | apply Swap.there)) rfl ?_
      refine op_v (v_assign rfl) rfl ?_
      refine ops_nil ?_
      refine post_next ?_
      refine code_ret ?_
      refine post_ret_then ?_
      refine post_ret (rs := [.cell 4 25, .tmp 5]) rfl (List.Perm.refl _) (.cons (.cell rfl ty25 (by repeat (first | exact Has.here | apply Has.there)) rfl) (.cons (.tmp rfl) .nil)) (List.nil_sublist _) ?_
      exact ⟨⟨1, zeroT, _, rfl, zeroT_rep _, .inr ⟨by omega, rfl⟩⟩, rfl⟩
    · first
        | (refine op_want rfl rfl ?_
           first | refine op_v (v_cmpt rfl rfl rfl (by first | omega | (simp; done) | (simp; omega))) rfl ?_ | refine op_v (v_cmpf rfl rfl rfl (by first | omega | (simp; done) | (simp; omega))) rfl ?_ | refine op_v (v_cmp rfl rfl rfl) rfl ?_)
        | (refine op_skip rfl rfl (by simp [undef]) rfl ?_)
      first | refine op_v (v_pickt rfl rfl) rfl ?_ | refine op_v (v_pickf rfl rfl) rfl ?_ | refine op_v (v_pickb rfl rfl rfl) rfl ?_
      refine ops_nil ?_
      refine post_next ?_
      refine code_cond_f rfl ?_
      refine code_skip ?_
      refine post_next ?_
      refine code_seq ?_
      refine code_draw (.fl 0 (.fl 1 (.ef 2 (.fl 3 (.ef 4 (.ef 5 (.fl 6 (.fl 7 (.ef 8 (.ef 9 .done)))))))))) (fun _ => _) mixed (by kernel_rfl) (by kernel_rfl) (fun _ => (List.Sublist.refl _)) ?_
      refine e_float rfl rfl (fun hs_ => PF.mk rfl (v_load ty25 rfl (by repeat (first | exact Has.here | apply Has.there)) rfl) hs_) (by repeat (first | exact Imm.le_refl _ | assumption | refine Imm.le_trans ?_ (by assumption))) (by intro x hx; first | exact hx | exact List.mem_cons_of_mem _ hx | exact List.mem_append_right _ hx | (simp only [List.mem_cons, List.not_mem_nil, or_false] at hx; repeat' (first | (subst hx; simp [cellsL]; done) | rcases hx with hx | hx)) | simp_all) ?_
      refine e_float rfl rfl (fun hs_ => PF.mk rfl (v_move rfl) hs_) (by repeat (first | exact Imm.le_refl _ | assumption | refine Imm.le_trans ?_ (by assumption))) (by intro x hx; first | exact hx | exact List.mem_cons_of_mem _ hx | exact List.mem_append_right _ hx | (simp only [List.mem_cons, List.not_mem_nil, or_false] at hx; repeat' (first | (subst hx; simp [cellsL]; done) | rcases hx with hx | hx)) | simp_all) ?_
      refine e_eff rfl (by intro cs b hc; cases hc) (by intro c hc; cases hc) ?_
      refine op_call pl84 rfl rfl ((open_does (hs.mono (by repeat (first | exact Imm.le_refl _ | assumption | refine Imm.le_trans ?_ (by assumption)))))) Parts.none ?_
      rintro v17 I17 _ hI17 ⟨b17, xs17, rfl, rfl, hM⟩
      refine ops_nil ?_
      refine e_next rfl (side_all (by repeat (first | exact Imm.le_refl _ | assumption | refine Imm.le_trans ?_ (by assumption))) (fun _ => (by intro x hx; first | exact hx | exact List.mem_cons_of_mem _ hx | exact List.mem_append_right _ hx | (simp only [List.mem_cons, List.not_mem_nil, or_false] at hx; repeat' (first | (subst hx; simp [cellsL]; done) | rcases hx with hx | hx)) | simp_all))) ?_
      refine e_float rfl rfl (fun hs_ => PF.mk rfl (v_makeFunc rfl rfl) hs_) (by repeat (first | exact Imm.le_refl _ | assumption | refine Imm.le_trans ?_ (by assumption))) (by intro x hx; first | exact hx | exact List.mem_cons_of_mem _ hx | exact List.mem_append_right _ hx | (simp only [List.mem_cons, List.not_mem_nil, or_false] at hx; repeat' (first | (subst hx; simp [cellsL]; done) | rcases hx with hx | hx)) | simp_all) ?_
      refine e_eff rfl (by intro cs b hc; cases hc) (by intro c hc; cases hc) ?_
      refine op_call pl83 rfl rfl ((rebuild_does (I0 := I17) (fun J v u hJ hu => FDoes.ofFirst (firsts := [_]) pl85 (of_does hu (hM.mono hJ))) t.size t (Nat.le_refl _) _ _ (Imm.le_refl _) (hv.mono (by repeat (first | exact Imm.le_refl _ | assumption | refine Imm.le_trans ?_ (by assumption)))))) (Parts.one Del.here) ?_
      rintro v19 I19 _ hI19 ⟨hv19, rfl⟩
      change RepT I19 v19 (sbT bs t) at hv19
      refine ops_nil ?_
      refine e_next rfl (side_nil (by kernel_rfl)) ?_
      refine e_eff rfl (by intro cs b hc; cases hc) (by intro c hc; cases hc) ?_
      refine op_call pl82 rfl rfl ((end_does hv19 hsz)) Parts.none ?_
      rintro v20 I20 _ hI20 ⟨⟨u20, rfl, hv20⟩, rfl⟩
      obtain ⟨a20, c20, rfl, _⟩ := hv20.shape
      refine ops_nil ?_
      refine e_next rfl (side_nil (by kernel_rfl)) ?_
      refine e_float rfl rfl (fun hs_ => PF.mk rfl (v_extract rfl rfl) hs_) (by repeat (first | exact Imm.le_refl _ | assumption | refine Imm.le_trans ?_ (by assumption))) (by intro x hx; first | exact hx | exact List.mem_cons_of_mem _ hx | exact List.mem_append_right _ hx | (simp only [List.mem_cons, List.not_mem_nil, or_false] at hx; repeat' (first | (subst hx; simp [cellsL]; done) | rcases hx with hx | hx)) | simp_all) ?_
      refine e_float rfl rfl (fun hs_ => PF.mk rfl (v_extract rfl rfl) hs_) (by repeat (first | exact Imm.le_refl _ | assumption | refine Imm.le_trans ?_ (by assumption))) (by intro x hx; first | exact hx | exact List.mem_cons_of_mem _ hx | exact List.mem_append_right _ hx | (simp only [List.mem_cons, List.not_mem_nil, or_false] at hx; repeat' (first | (subst hx; simp [cellsL]; done) | rcases hx with hx | hx)) | simp_all) ?_
      refine e_eff rfl (by intro cs b hc; cases hc) (by intro c hc; cases hc) ?_
      refine o_store ty25 rfl rfl rfl rfl rfl (by repeat (first | exact Swap.here | apply Swap.there)) rfl ?_
      refine ops_nil ?_
      refine e_next_ (side_nil (by kernel_rfl)) ?_
      refine e_eff rfl (by intro cs b hc; cases hc) (by intro c hc; cases hc) ?_
      refine op_v (v_assign rfl) rfl ?_
      refine ops_nil ?_
      refine e_next rfl (side_nil (by kernel_rfl)) ?_
      refine e_done ?_
      refine post_next ?_
      refine code_ret ?_
      refine post_ret (rs := [.cell 4 25, .tmp 5]) rfl (List.Perm.refl _) (.cons (.cell rfl ty25 (by repeat (first | exact Has.here | apply Has.there)) rfl) (.cons (.tmp rfl) .nil)) (List.nil_sublist _) ?_
      have he0 : e7 = 0 := by omega
      have hcb : chkB bs := by rcases he7 with h | h; exact h.2; omega
      refine ⟨⟨chkT (sbT bs t), _, _, rfl, hv20, ?_⟩, rfl⟩
      by_cases hq : chkT (sbT bs t) = 0
      · rw [if_pos hq]; exact .inl ⟨hq, hcb, by omega, rfl, hq⟩
      · rw [if_neg hq]; exact .inr ⟨hq, rfl⟩

theorem FewB_does {I : Imm} {v : Value} {bs : List Bi} (hv : RepB I v bs) :
    Does Try.prog 33 [v] I [] (fun v I' δ' => (∃ b, v = .bool b ∧ (b = true → ∀ x ∈ bs, x.2.size ≤ 500)) ∧ δ' = []) := by
  obtain ⟨ad, c, rfl⟩ := hv.shape
  obtain ⟨_, hc, hb, hr, ss, hat, hsub⟩ := hv.open
  refine Does.intro Try.func33 rfl Try.ntmps33 rfl fun w0 => ?_
  refine code_seq ?_
  refine code_region ?_
  refine op_v (v_assign rfl) rfl ?_
  refine ops_nil ?_
  refine post_next ?_
  refine code_seq ?_
  refine code_region ?_
  refine op_v (v_assign rfl) rfl ?_
  refine ops_nil ?_
  refine post_next ?_
  refine code_seq ?_
  refine code_seq ?_
  refine code_region ?_
  refine op_v (v_assign rfl) rfl ?_
  refine ops_nil ?_
  refine post_next ?_
  refine code_block ?_
  refine code_loop (fun m σ' I' δ' => ∃ (k n : Nat), m = bs.length - k ∧ k ≤ bs.length ∧ σ' = [(0, .slice ad bs.length c), (3, .int .i64 n), (4, .int .i64 k)] ∧ I.le I' ∧ δ' = [] ∧ n ≤ 2000 ∧ (n ≤ 500 → ∀ i (h : i < bs.length), i < k → bs[i].2.size ≤ 500)) bs.length [(0, .slice ad bs.length c), (3, .int .i64 (0 : Nat)), (4, .int .i64 (0 : Nat))] ⟨0, 0, rfl, Nat.zero_le _, rfl, Imm.le_refl _, rfl, by omega, fun _ i _ h => by omega⟩ ⟨rfl, rfl, rfl, trivial⟩ ?_
  rintro m _ I0 _ ⟨k, n, rfl, hk, rfl, hI0, rfl, hn, hp⟩
  refine code_seq ?_
  refine code_seq ?_
  refine code_region ?_
  refine op_v (v_move rfl) rfl ?_
  refine op_v (v_move rfl) rfl ?_
  by_cases h7 : k < bs.length
  · have hs1 := (hat k h7).isSome
    refine op_v (v_len Try.underlying52 rfl) rfl ?_
    first | refine op_v (v_cmpt rfl rfl rfl (by first | omega | (simp; done) | (simp; omega))) rfl ?_ | refine op_v (v_cmpf rfl rfl rfl (by first | omega | (simp; done) | (simp; omega))) rfl ?_ | refine op_v (v_cmp rfl rfl rfl) rfl ?_
    refine op_v (v_move rfl) rfl ?_
    first
      | (refine op_want rfl rfl ?_
         refine op_v (v_move rfl) rfl ?_)
      | (refine op_skip rfl rfl (by simp [undef]) rfl ?_)
    first
      | (refine op_want rfl rfl ?_
         refine op_v (v_len Try.underlying52 rfl) rfl ?_)
      | (refine op_skip rfl rfl (by simp [undef]) rfl ?_)
    by_cases h12 : bs.length ≤ 10
    · first
        | (refine op_want rfl rfl ?_
           first | refine op_v (v_cmpt rfl rfl rfl (by first | omega | (simp; done) | (simp; omega))) rfl ?_ | refine op_v (v_cmpf rfl rfl rfl (by first | omega | (simp; done) | (simp; omega))) rfl ?_ | refine op_v (v_cmp rfl rfl rfl) rfl ?_)
        | (refine op_skip rfl rfl (by simp [undef]) rfl ?_)
      first | refine op_v (v_pickt rfl rfl) rfl ?_ | refine op_v (v_pickf rfl rfl) rfl ?_ | refine op_v (v_pickb rfl rfl rfl) rfl ?_
      refine op_v (v_move rfl) rfl ?_
      first
        | (refine op_want rfl rfl ?_
           refine op_v (v_move rfl) rfl ?_)
        | (refine op_skip rfl rfl (by simp [undef]) rfl ?_)
      by_cases h16 : n ≤ 500
      · first
          | (refine op_want rfl rfl ?_
             first | refine op_v (v_cmpt rfl rfl rfl (by first | omega | (simp; done) | (simp; omega))) rfl ?_ | refine op_v (v_cmpf rfl rfl rfl (by first | omega | (simp; done) | (simp; omega))) rfl ?_ | refine op_v (v_cmp rfl rfl rfl) rfl ?_)
          | (refine op_skip rfl rfl (by simp [undef]) rfl ?_)
        first | refine op_v (v_pickt rfl rfl) rfl ?_ | refine op_v (v_pickf rfl rfl) rfl ?_ | refine op_v (v_pickb rfl rfl rfl) rfl ?_
        refine ops_nil ?_
        refine post_next ?_
        refine code_cond_t rfl ?_
        refine code_skip ?_
        refine post_next ?_
        refine code_seq ?_
        refine code_block ?_
        refine code_region ?_
        refine op_v (v_move rfl) rfl ?_
        refine op_v (v_move rfl) rfl ?_
        refine op_v (v_move rfl) rfl ?_
        first | refine op_v (v_index Try.underlying52 sz94 rfl rfl (by omega) (by assumption)) rfl ?_ | refine op_v (v_indexI Try.underlying52 sz94 rfl rfl (by first | omega | (simp; done) | (simp; omega)) (by first | omega | (simp; done) | (simp; omega)) (by assumption)) rfl ?_
        first | refine op_v (v_fieldB 1 Try.underlying94 rfl rfl fz25 rfl) rfl ?_ | refine op_v (v_fieldI 1 Try.underlying94 rfl rfl fz25 rfl (by assumption)) rfl ?_ | refine op_v (v_field Try.underlying94 rfl fz25 rfl rfl) rfl ?_
        first | refine op_v (v_loadI0 ty25 ((hat k h7).mono hI0) rfl rfl rfl) rfl ?_ | refine op_v (v_loadI ty25 ((hat k h7).mono hI0) rfl rfl rfl) rfl ?_
        refine op_call pl72 rfl rfl ((Count_does _ _ (Nat.le_refl _) 500 (by omega) _ _ ((hsub k h7).mono hI0))) Parts.none ?_
        rintro v26 I26 _ hI26 ⟨rfl, rfl⟩
        first | refine op_v (v_addb rfl rfl rfl (by omega)) rfl ?_ | refine op_v (v_add rfl rfl) rfl ?_
        refine op_v (v_assign rfl) rfl ?_
        refine ops_nil ?_
        refine post_out ?_
        refine post_next ?_
        refine code_region ?_
        refine op_v (v_move rfl) rfl ?_
        first | refine op_v (v_addb rfl rfl rfl (by omega)) rfl ?_ | refine op_v (v_add rfl rfl) rfl ?_
        refine op_v (v_assign rfl) rfl ?_
        refine ops_nil ?_
        refine post_again (bs.length - (k + 1)) [(0, .slice ad bs.length c), (3, .int .i64 ((n : Int) + ((min bs[k].2.size (500 + 1) : Nat) : Int))), (4, .int .i64 (k + 1 : Nat))] (by omega) ⟨k + 1, n + min bs[k].2.size (500 + 1), rfl, h7, by rw [show ((n + min bs[k].2.size (500 + 1) : Nat) : Int) = (n : Int) + ((min bs[k].2.size (500 + 1) : Nat) : Int) from Int.natCast_add _ _], (by repeat (first | exact Imm.le_refl _ | assumption | refine Imm.le_trans ?_ (by assumption))), rfl, by omega, fun hq i h hi => ?_⟩ ⟨rfl, rfl, rfl, trivial⟩
        rcases Nat.lt_or_ge i k with hik | hik
        · exact hp (by omega) i h hik
        have hik2 : i = k := by omega
        subst hik2
        omega
      · first
          | (refine op_want rfl rfl ?_
             first | refine op_v (v_cmpt rfl rfl rfl (by first | omega | (simp; done) | (simp; omega))) rfl ?_ | refine op_v (v_cmpf rfl rfl rfl (by first | omega | (simp; done) | (simp; omega))) rfl ?_ | refine op_v (v_cmp rfl rfl rfl) rfl ?_)
          | (refine op_skip rfl rfl (by simp [undef]) rfl ?_)
        first | refine op_v (v_pickt rfl rfl) rfl ?_ | refine op_v (v_pickf rfl rfl) rfl ?_ | refine op_v (v_pickb rfl rfl rfl) rfl ?_
        refine ops_nil ?_
        refine post_next ?_
        refine code_cond_f rfl ?_
        refine code_exit ?_
        refine post_exit_then ?_
        refine post_exit_then ?_
        refine post_exit ?_
        refine post_next ?_
        refine code_seq ?_
        refine code_region ?_
        refine op_v (v_move rfl) rfl ?_
        refine op_v (v_len Try.underlying52 rfl) rfl ?_
        first | refine op_v (v_cmpt rfl rfl rfl (by first | omega | (simp; done) | (simp; omega))) rfl ?_ | refine op_v (v_cmpf rfl rfl rfl (by first | omega | (simp; done) | (simp; omega))) rfl ?_ | refine op_v (v_cmp rfl rfl rfl) rfl ?_
        refine op_v (v_move rfl) rfl ?_
        first
          | (refine op_want rfl rfl ?_
             refine op_v (v_move rfl) rfl ?_)
          | (refine op_skip rfl rfl (by simp [undef]) rfl ?_)
        first
          | (refine op_want rfl rfl ?_
             first | refine op_v (v_cmpt rfl rfl rfl (by first | omega | (simp; done) | (simp; omega))) rfl ?_ | refine op_v (v_cmpf rfl rfl rfl (by first | omega | (simp; done) | (simp; omega))) rfl ?_ | refine op_v (v_cmp rfl rfl rfl) rfl ?_)
          | (refine op_skip rfl rfl (by simp [undef]) rfl ?_)
        first | refine op_v (v_pickt rfl rfl) rfl ?_ | refine op_v (v_pickf rfl rfl) rfl ?_ | refine op_v (v_pickb rfl rfl rfl) rfl ?_
        refine op_v (v_assign rfl) rfl ?_
        refine ops_nil ?_
        refine post_next ?_
        refine code_ret ?_
        refine post_ret (rs := [.tmp 2]) rfl (List.Perm.refl _) (.cons (.tmp rfl) .nil) (List.nil_sublist _) ?_
        exact ⟨⟨false, rfl, fun h => by cases h⟩, rfl⟩
    · first
        | (refine op_want rfl rfl ?_
           first | refine op_v (v_cmpt rfl rfl rfl (by first | omega | (simp; done) | (simp; omega))) rfl ?_ | refine op_v (v_cmpf rfl rfl rfl (by first | omega | (simp; done) | (simp; omega))) rfl ?_ | refine op_v (v_cmp rfl rfl rfl) rfl ?_)
        | (refine op_skip rfl rfl (by simp [undef]) rfl ?_)
      first | refine op_v (v_pickt rfl rfl) rfl ?_ | refine op_v (v_pickf rfl rfl) rfl ?_ | refine op_v (v_pickb rfl rfl rfl) rfl ?_
      refine op_v (v_move rfl) rfl ?_
      first
        | (refine op_want rfl rfl ?_
           refine op_v (v_move rfl) rfl ?_)
        | (refine op_skip rfl rfl (by simp [undef]) rfl ?_)
      first
        | (refine op_want rfl rfl ?_
           first | refine op_v (v_cmpt rfl rfl rfl (by first | omega | (simp; done) | (simp; omega))) rfl ?_ | refine op_v (v_cmpf rfl rfl rfl (by first | omega | (simp; done) | (simp; omega))) rfl ?_ | refine op_v (v_cmp rfl rfl rfl) rfl ?_)
        | (refine op_skip rfl rfl (by simp [undef]) rfl ?_)
      first | refine op_v (v_pickt rfl rfl) rfl ?_ | refine op_v (v_pickf rfl rfl) rfl ?_ | refine op_v (v_pickb rfl rfl rfl) rfl ?_
      refine ops_nil ?_
      refine post_next ?_
      refine code_cond_f rfl ?_
      refine code_exit ?_
      refine post_exit_then ?_
      refine post_exit_then ?_
      refine post_exit ?_
      refine post_next ?_
      refine code_seq ?_
      refine code_region ?_
      refine op_v (v_move rfl) rfl ?_
      refine op_v (v_len Try.underlying52 rfl) rfl ?_
      first | refine op_v (v_cmpt rfl rfl rfl (by first | omega | (simp; done) | (simp; omega))) rfl ?_ | refine op_v (v_cmpf rfl rfl rfl (by first | omega | (simp; done) | (simp; omega))) rfl ?_ | refine op_v (v_cmp rfl rfl rfl) rfl ?_
      refine op_v (v_move rfl) rfl ?_
      first
        | (refine op_want rfl rfl ?_
           refine op_v (v_move rfl) rfl ?_)
        | (refine op_skip rfl rfl (by simp [undef]) rfl ?_)
      first
        | (refine op_want rfl rfl ?_
           first | refine op_v (v_cmpt rfl rfl rfl (by first | omega | (simp; done) | (simp; omega))) rfl ?_ | refine op_v (v_cmpf rfl rfl rfl (by first | omega | (simp; done) | (simp; omega))) rfl ?_ | refine op_v (v_cmp rfl rfl rfl) rfl ?_)
        | (refine op_skip rfl rfl (by simp [undef]) rfl ?_)
      first | refine op_v (v_pickt rfl rfl) rfl ?_ | refine op_v (v_pickf rfl rfl) rfl ?_ | refine op_v (v_pickb rfl rfl rfl) rfl ?_
      refine op_v (v_assign rfl) rfl ?_
      refine ops_nil ?_
      refine post_next ?_
      refine code_ret ?_
      refine post_ret (rs := [.tmp 2]) rfl (List.Perm.refl _) (.cons (.tmp rfl) .nil) (List.nil_sublist _) ?_
      exact ⟨⟨false, rfl, fun h => by cases h⟩, rfl⟩
  · refine op_v (v_len Try.underlying52 rfl) rfl ?_
    first | refine op_v (v_cmpt rfl rfl rfl (by first | omega | (simp; done) | (simp; omega))) rfl ?_ | refine op_v (v_cmpf rfl rfl rfl (by first | omega | (simp; done) | (simp; omega))) rfl ?_ | refine op_v (v_cmp rfl rfl rfl) rfl ?_
    refine op_v (v_move rfl) rfl ?_
    first
      | (refine op_want rfl rfl ?_
         refine op_v (v_move rfl) rfl ?_)
      | (refine op_skip rfl rfl (by simp [undef]) rfl ?_)
    first
      | (refine op_want rfl rfl ?_
         refine op_v (v_len Try.underlying52 rfl) rfl ?_)
      | (refine op_skip rfl rfl (by simp [undef]) rfl ?_)
    first
      | (refine op_want rfl rfl ?_
         first | refine op_v (v_cmpt rfl rfl rfl (by first | omega | (simp; done) | (simp; omega))) rfl ?_ | refine op_v (v_cmpf rfl rfl rfl (by first | omega | (simp; done) | (simp; omega))) rfl ?_ | refine op_v (v_cmp rfl rfl rfl) rfl ?_)
      | (refine op_skip rfl rfl (by simp [undef]) rfl ?_)
    first | refine op_v (v_pickt rfl rfl) rfl ?_ | refine op_v (v_pickf rfl rfl) rfl ?_ | refine op_v (v_pickb rfl rfl rfl) rfl ?_
    refine op_v (v_move rfl) rfl ?_
    first
      | (refine op_want rfl rfl ?_
         refine op_v (v_move rfl) rfl ?_)
      | (refine op_skip rfl rfl (by simp [undef]) rfl ?_)
    first
      | (refine op_want rfl rfl ?_
         first | refine op_v (v_cmpt rfl rfl rfl (by first | omega | (simp; done) | (simp; omega))) rfl ?_ | refine op_v (v_cmpf rfl rfl rfl (by first | omega | (simp; done) | (simp; omega))) rfl ?_ | refine op_v (v_cmp rfl rfl rfl) rfl ?_)
      | (refine op_skip rfl rfl (by simp [undef]) rfl ?_)
    first | refine op_v (v_pickt rfl rfl) rfl ?_ | refine op_v (v_pickf rfl rfl) rfl ?_ | refine op_v (v_pickb rfl rfl rfl) rfl ?_
    refine ops_nil ?_
    refine post_next ?_
    refine code_cond_f rfl ?_
    refine code_exit ?_
    refine post_exit_then ?_
    refine post_exit_then ?_
    refine post_exit ?_
    refine post_next ?_
    refine code_seq ?_
    refine code_region ?_
    refine op_v (v_move rfl) rfl ?_
    refine op_v (v_len Try.underlying52 rfl) rfl ?_
    by_cases h30 : bs.length ≤ 10
    · first | refine op_v (v_cmpt rfl rfl rfl (by first | omega | (simp; done) | (simp; omega))) rfl ?_ | refine op_v (v_cmpf rfl rfl rfl (by first | omega | (simp; done) | (simp; omega))) rfl ?_ | refine op_v (v_cmp rfl rfl rfl) rfl ?_
      refine op_v (v_move rfl) rfl ?_
      first
        | (refine op_want rfl rfl ?_
           refine op_v (v_move rfl) rfl ?_)
        | (refine op_skip rfl rfl (by simp [undef]) rfl ?_)
      by_cases h33 : n ≤ 500
      · first
          | (refine op_want rfl rfl ?_
             first | refine op_v (v_cmpt rfl rfl rfl (by first | omega | (simp; done) | (simp; omega))) rfl ?_ | refine op_v (v_cmpf rfl rfl rfl (by first | omega | (simp; done) | (simp; omega))) rfl ?_ | refine op_v (v_cmp rfl rfl rfl) rfl ?_)
          | (refine op_skip rfl rfl (by simp [undef]) rfl ?_)
        first | refine op_v (v_pickt rfl rfl) rfl ?_ | refine op_v (v_pickf rfl rfl) rfl ?_ | refine op_v (v_pickb rfl rfl rfl) rfl ?_
        refine op_v (v_assign rfl) rfl ?_
        refine ops_nil ?_
        refine post_next ?_
        refine code_ret ?_
        refine post_ret (rs := [.tmp 2]) rfl (List.Perm.refl _) (.cons (.tmp rfl) .nil) (List.nil_sublist _) ?_
        exact ⟨⟨true, rfl, fun _ x hx => by obtain ⟨i, hi, rfl⟩ := List.getElem_of_mem hx; exact hp h33 i hi (by omega)⟩, rfl⟩
      · first
          | (refine op_want rfl rfl ?_
             first | refine op_v (v_cmpt rfl rfl rfl (by first | omega | (simp; done) | (simp; omega))) rfl ?_ | refine op_v (v_cmpf rfl rfl rfl (by first | omega | (simp; done) | (simp; omega))) rfl ?_ | refine op_v (v_cmp rfl rfl rfl) rfl ?_)
          | (refine op_skip rfl rfl (by simp [undef]) rfl ?_)
        first | refine op_v (v_pickt rfl rfl) rfl ?_ | refine op_v (v_pickf rfl rfl) rfl ?_ | refine op_v (v_pickb rfl rfl rfl) rfl ?_
        refine op_v (v_assign rfl) rfl ?_
        refine ops_nil ?_
        refine post_next ?_
        refine code_ret ?_
        refine post_ret (rs := [.tmp 2]) rfl (List.Perm.refl _) (.cons (.tmp rfl) .nil) (List.nil_sublist _) ?_
        exact ⟨⟨false, rfl, fun h => by cases h⟩, rfl⟩
    · first | refine op_v (v_cmpt rfl rfl rfl (by first | omega | (simp; done) | (simp; omega))) rfl ?_ | refine op_v (v_cmpf rfl rfl rfl (by first | omega | (simp; done) | (simp; omega))) rfl ?_ | refine op_v (v_cmp rfl rfl rfl) rfl ?_
      refine op_v (v_move rfl) rfl ?_
      first
        | (refine op_want rfl rfl ?_
           refine op_v (v_move rfl) rfl ?_)
        | (refine op_skip rfl rfl (by simp [undef]) rfl ?_)
      first
        | (refine op_want rfl rfl ?_
           first | refine op_v (v_cmpt rfl rfl rfl (by first | omega | (simp; done) | (simp; omega))) rfl ?_ | refine op_v (v_cmpf rfl rfl rfl (by first | omega | (simp; done) | (simp; omega))) rfl ?_ | refine op_v (v_cmp rfl rfl rfl) rfl ?_)
        | (refine op_skip rfl rfl (by simp [undef]) rfl ?_)
      first | refine op_v (v_pickt rfl rfl) rfl ?_ | refine op_v (v_pickf rfl rfl) rfl ?_ | refine op_v (v_pickb rfl rfl rfl) rfl ?_
      refine op_v (v_assign rfl) rfl ?_
      refine ops_nil ?_
      refine post_next ?_
      refine code_ret ?_
      refine post_ret (rs := [.tmp 2]) rfl (List.Perm.refl _) (.cons (.tmp rfl) .nil) (List.nil_sublist _) ?_
      exact ⟨⟨false, rfl, fun h => by cases h⟩, rfl⟩

/-! ### the plain law -/
mutual
theorem snd_T : ∀ (d : Nat) (b : Bool) (t : T), (partsT d t).map (·.2) = (visT b t).map (·.2)
  | d, b, .mk h us => by simp only [partsT, visT, List.map_cons, snd_L (d + 1) us]
theorem snd_L : ∀ (d : Nat) (us : List T), (partsL d us).map (·.2) = (visL us).map (·.2)
  | _, [] => rfl
  | d, t :: r => by simp only [partsL, visL, List.map_append, snd_T d false t, snd_L d r]
end
theorem chk_vis {t : T} (h : chkT t = 0) : ∀ x ∈ visT true t, (x.2.head < 0 → x.2.args = []) ∧ -256 ≤ x.2.head := by
  intro x hx
  have h1 : (partsT 1 t).any badN = false := by
    unfold chkT at h
    split at h
    · cases h
    · split at h
      · cases h
      · split at h
        · cases h
        · rename_i hq; exact Bool.eq_false_iff.2 hq
  have h2 : x.2 ∈ (partsT 1 t).map (·.2) := by rw [snd_T 1 true t]; exact List.mem_map_of_mem hx
  obtain ⟨y, hy, hyx⟩ := List.mem_map.1 h2
  rw [List.any_eq_false] at h1
  have h3 := h1 y hy
  simp only [badN, Bool.or_eq_true, Bool.and_eq_true, decide_eq_true_eq, not_or, not_and, hyx] at h3
  obtain ⟨⟨⟨h4, h5⟩, _⟩, _⟩ := h3
  refine ⟨fun hn => List.eq_nil_of_length_eq_zero (by have := h4 hn; omega), by omega⟩
mutual
theorem wgt_rb (gs : List Sy) (f : T → T) : ∀ (t : T), (∀ x ∈ visT true t, x.2.head < 0 → x.2.args = []) → wgtG gs (rbT f t) = ((visT true t).map fun x => if x.2.head < 0 then wgtG gs (f (.mk x.2.head [])) else wB gs x.2.head).sum
  | .mk h us, hx => by
    have h0 := hx (true, .mk h us) (by simp [visT])
    have e0 : (T.mk h us).head = h := rfl
    have e1 : (T.mk h us).args = us := rfl
    simp only [e0, e1] at h0
    simp only [rbT, visT, List.map_cons, List.sum_cons, e0]
    by_cases hn : h < 0
    · have := h0 hn
      subst this
      rw [if_pos hn, if_pos hn]; simp [visL]
    · rw [if_neg hn, if_neg hn, wgtG_eq]
      show wB gs h + sumV gs (visL (rbL f us)) = _
      rw [wgt_rbL gs f us (fun x hx' => hx x (by simp [visT, hx']))]
theorem wgt_rbL (gs : List Sy) (f : T → T) : ∀ (us : List T), (∀ x ∈ visL us, x.2.head < 0 → x.2.args = []) → sumV gs (visL (rbL f us)) = ((visL us).map fun x => if x.2.head < 0 then wgtG gs (f (.mk x.2.head [])) else wB gs x.2.head).sum
  | [], _ => by simp [rbL, visL, sumV]
  | t :: r, hx => by
    simp only [rbL, visL, sumV_app, sumV_T, List.map_append, List.sum_append]
    rw [wgt_rbL gs f r (fun x hx' => hx x (by simp [visL, hx']))]
    have e : ∀ x ∈ visT true t, x.2.head < 0 → x.2.args = [] := fun x hx' => by
      rw [visT_eq] at hx'
      rcases List.mem_cons.1 hx' with rfl | hx'
      · exact hx (false, t) (by simp [visL, visT_eq])
      · exact hx x (by simp [visL, visT_eq, hx'])
    rw [wgt_rb gs f t e]
    congr 1
    rw [visT_eq true, visT_eq false]; rfl
end
theorem vis_ok {gs : List Sy} (f : T → T) : ∀ (n : Nat) (t : T), t.size ≤ n → ∀ b, (∀ x ∈ visT b t, x.2.head < 0 → x.2.args = []) → OkG gs (rbT f t) → ∀ x ∈ visT b t, x.2.head < 0 → OkG gs (f x.2) := by
  intro n
  induction n with
  | zero => intro t h; have := t.size_pos; omega
  | succ n ih =>
    intro t hn b hx hO x hxm hneg
    obtain ⟨h, us⟩ := t
    rw [visT_eq] at hxm
    rcases List.mem_cons.1 hxm with rfl | hxm
    · have e : rbT f (.mk h us) = f (.mk h us) := by simp only [rbT]; rw [if_pos (show h < 0 from hneg)]
      rw [e] at hO; exact hO
    · have hh : ¬ h < 0 := fun hn => by
        have := hx (b, .mk h us) (by simp [visT]) hn
        change us = [] at this
        change x ∈ visL us at hxm
        subst this
        simp [visL] at hxm
      have e : rbT f (.mk h us) = .mk h (rbL f us) := by simp only [rbT]; rw [if_neg hh]
      rw [e] at hO
      change x ∈ visL us at hxm
      have key : ∀ (l : List T), x ∈ visL l → ∃ i, ∃ hi : i < l.length, x ∈ visT false l[i] := by
        intro l
        induction l with
        | nil => intro hm; simp [visL] at hm
        | cons a r ihr =>
          intro hm
          simp only [visL, List.mem_append] at hm
          rcases hm with hm | hm
          · exact ⟨0, by simp, hm⟩
          · obtain ⟨i, hi, h3⟩ := ihr hm
            exact ⟨i + 1, by simpa using hi, by simpa using h3⟩
      obtain ⟨i, hi, hxi⟩ := key us hxm
      have hch := (hO.child i (by show i < (rbL f us).length; rw [rbL_len]; exact hi)).1
      have e2 : (rbL f us)[i]'(by rw [rbL_len]; exact hi) = rbT f us[i] := by simp [rbL_map]
      change OkG gs ((rbL f us)[i]'(by rw [rbL_len]; exact hi)) at hch
      rw [e2] at hch
      have hs1 := sizeL_mem us i hi
      have hs2 : (T.mk h us).size = 1 + sizeL us := by simp [T.size]
      refine ih us[i] (by omega) false (fun y hy => hx y ?_) hch x hxi hneg
      rw [visT_eq]
      refine List.mem_cons_of_mem _ ?_
      show y ∈ visL us
      rw [visL_split us i hi]
      exact List.mem_append_right _ (List.mem_append_left _ hy)

def accF (F : Int → Int) (l : List Int) : Nat → Int
  | 0 => 0
  | n + 1 => accF F l n + ((l.count (-1 - (n : Int)) : Nat) : Int) * F (-1 - (n : Int))
theorem accF_cons (F : Int → Int) (x : Int) (l : List Int) : ∀ n : Nat, accF F (x :: l) n = accF F l n + (if -(n : Int) ≤ x ∧ x < 0 then F x else 0)
  | 0 => by rw [if_neg (by omega)]; simp [accF]
  | n + 1 => by
    simp only [accF, accF_cons F x l n, List.count_cons]
    by_cases h : x = -1 - (n : Int)
    · subst h
      have h1 : ¬ (-(n : Int) ≤ -1 - (n : Int) ∧ -1 - (n : Int) < 0) := by omega
      have h2 : -((n + 1 : Nat) : Int) ≤ -1 - (n : Int) ∧ -1 - (n : Int) < 0 := by omega
      rw [if_neg h1, if_pos h2]
      simp only [beq_self_eq_true, if_true, Int.natCast_add, Int.add_mul, Int.natCast_one, Int.one_mul]; omega
    · have hb : (x == -1 - (n : Int)) = false := by simp [h]
      rw [hb]
      simp only [Bool.false_eq_true, if_false, Nat.add_zero]
      by_cases h2 : -(n : Int) ≤ x ∧ x < 0
      · have h3 : -((n + 1 : Nat) : Int) ≤ x ∧ x < 0 := by omega
        rw [if_pos h2, if_pos h3]; omega
      · have h3 : ¬ (-((n + 1 : Nat) : Int) ≤ x ∧ x < 0) := by omega
        rw [if_neg h2, if_neg h3]; omega
theorem accF_sum (F : Int → Int) : ∀ (l : List Int), (∀ k ∈ l, -256 ≤ k) → accF F l 256 = (l.map fun k => if k < 0 then F k else 0).sum
  | [], _ => by
    have : ∀ n, accF F [] n = 0 := fun n => by induction n with | zero => rfl | succ n ih => simp [accF, ih]
    simp [this]
  | x :: r, h => by
    rw [accF_cons, accF_sum F r (fun k hk => h k (List.mem_cons_of_mem _ hk)), List.map_cons, List.sum_cons]
    have hx := h x (List.mem_cons_self ..)
    by_cases hn : x < 0
    · rw [if_pos ⟨by omega, hn⟩, if_pos hn]; omega
    · rw [if_neg (by omega), if_neg hn]; omega
theorem accF_flat (F : Int → Int) (l : List Int) (a : Nat) : ∀ n : Nat, (∀ v, a ≤ v → v < a + n → l.count (-1 - (v : Int)) = 0) → accF F l (a + n) = accF F l a
  | 0, _ => rfl
  | n + 1, h => by
    rw [← Nat.add_assoc]
    simp only [accF]
    rw [h (a + n) (by omega) (by omega), accF_flat F l a n (fun v h1 h2 => h v h1 (by omega))]; simp
theorem accF_mono (F : Int → Int) (l : List Int) (a : Nat) : ∀ n : Nat, (∀ v, v < a + n → 0 ≤ ((l.count (-1 - (v : Int)) : Nat) : Int) * F (-1 - (v : Int))) → accF F l a ≤ accF F l (a + n)
  | 0, _ => Int.le_refl _
  | n + 1, h => by
    rw [← Nat.add_assoc]
    simp only [accF]
    have h1 := h (a + n) (by omega)
    have h2 := accF_mono F l a n (fun v hv => h v (by omega))
    omega
def moreF (gs : List Sy) (bs : List Bi) (k : Int) : Int := wgtG gs (ofT bs (.mk k [])) - 1
structure Puts (gs : List Sy) (bs : List Bi) (t : T) (cs : List Int) : Prop where
  tot : wgtG gs (sbT bs t) = wgtG gs t + accF (moreF gs bs) (hds t) cs.length
  ok : ∀ v : Nat, v < cs.length → cs.getD v 0 ≠ 0 → OkG gs (ofT bs (.mk (-1 - (v : Int)) []))
  get : ∀ v : Nat, v < cs.length → cs.getD v 0 = (((hds t).count (-1 - (v : Int)) : Nat) : Int)
  le : ∀ v : Nat, v ≤ cs.length → 0 ≤ accF (moreF gs bs) (hds t) v ∧ accF (moreF gs bs) (hds t) v ≤ 400000
  one : ∀ v : Nat, v < cs.length → 0 ≤ (((hds t).count (-1 - (v : Int)) : Nat) : Int) * moreF gs bs (-1 - (v : Int))
  len : cs.length ≤ 256
theorem puts_of {gs : List Sy} {bs : List Bi} {t : T} {cs : List Int} (hO : OkG gs t) (hU : OkG gs (sbT bs t)) (hC : CInv (hds t) [] cs) : Puts gs bs t cs := by
  have hv := chk_vis hO.chk
  have hlast := hC.last
  have hlen := hC.1
  have okv : ∀ v : Nat, 0 < (hds t).count (-1 - (v : Int)) → OkG gs (ofT bs (.mk (-1 - (v : Int)) [])) := fun v hc => by
    have hm := List.count_pos_iff.1 hc
    obtain ⟨x, hx, hxh⟩ := List.mem_map.1 hm
    have hneg : x.2.head < 0 := by omega
    have := vis_ok (ofT bs) t.size t (Nat.le_refl _) true (fun y hy => (hv y hy).1) hU x hx hneg
    have ha := (hv x hx).1 hneg
    have e : x.2 = .mk (-1 - (v : Int)) [] := by
      obtain ⟨b, h, us⟩ := x
      change h = _ at hxh
      change us = [] at ha
      subst hxh; subst ha; rfl
    rw [e] at this; exact this
  have one : ∀ v : Nat, 0 ≤ (((hds t).count (-1 - (v : Int)) : Nat) : Int) * moreF gs bs (-1 - (v : Int)) := fun v => by
    by_cases hc : (hds t).count (-1 - (v : Int)) = 0
    · rw [hc]; simp
    · have h1 := okv v (by omega)
      have h2 := wgtG_range h1
      have h3 := (ofT bs (.mk (-1 - (v : Int)) [])).size_pos
      exact Int.mul_nonneg (by omega) (by unfold moreF; omega)
  have tot : wgtG gs (sbT bs t) = wgtG gs t + accF (moreF gs bs) (hds t) 256 := by
    rw [accF_sum _ _ (fun k hk => by obtain ⟨x, hx, rfl⟩ := List.mem_map.1 hk; exact (hv x hx).2)]
    unfold sbT
    rw [wgt_rb gs (ofT bs) t (fun x hx => (hv x hx).1)]
    unfold wgtG hds
    rw [List.map_map, List.map_map]
    generalize visT true t = l
    induction l with
    | nil => rfl
    | cons x r ih =>
      simp only [List.map_cons, List.sum_cons, ih, Function.comp]
      by_cases hn : x.2.head < 0
      · simp only [if_pos hn, wB, moreF, wgtG, hds]; omega
      · simp only [if_neg hn, wB]; omega
  have flat : accF (moreF gs bs) (hds t) 256 = accF (moreF gs bs) (hds t) cs.length := by
    have := accF_flat (moreF gs bs) (hds t) cs.length (256 - cs.length) (fun v h1 h2 => by
      have := hlast v (by omega)
      rw [List.getD_eq_getElem?_getD, List.getElem?_eq_none_iff.2 h1] at this
      simp at this; omega)
    rw [show cs.length + (256 - cs.length) = 256 by omega] at this
    exact this
  rw [flat] at tot
  refine ⟨tot, fun v hvl hne => okv v (by have := hlast v (by omega); omega), fun v hvl => hlast v (by omega), fun v hvl => ?_, fun v _ => one v, hlen⟩
  have h1 := accF_mono (moreF gs bs) (hds t) 0 v (fun w _ => one w)
  have h2 := accF_mono (moreF gs bs) (hds t) v (cs.length - v) (fun w _ => one w)
  rw [show v + (cs.length - v) = cs.length by omega] at h2
  rw [Nat.zero_add] at h1
  have h3 := wgtG_range hU
  have h4 := wgtG_range hO
  simp only [accF] at h1
  omega
end Go.Proofs.Ytegceppoioeeaaa
/- The order of terms: plain facts. No condition. -/
set_option linter.unusedVariables false
set_option linter.unusedSimpArgs false
namespace Go.Proofs.Ytegceppoioeeaaa

abbrev cn (t : T) (k : Int) : Nat := (hds t).count k
def vleB (a b : T) : Bool := (hds b).all fun k => decide (0 ≤ k) || decide (cn b k ≤ cn a k)
theorem vleB_iff {a b : T} : vleB a b = true ↔ ∀ k : Int, k < 0 → cn b k ≤ cn a k := by
  unfold vleB
  rw [List.all_eq_true]
  constructor
  · intro h k hk
    by_cases hm : k ∈ hds b
    · have := h k hm
      simp only [Bool.or_eq_true, decide_eq_true_eq] at this
      rcases this with h1 | h1
      · omega
      · exact h1
    · have : cn b k = 0 := List.count_eq_zero.2 hm
      omega
  · intro h k hm
    simp only [Bool.or_eq_true, decide_eq_true_eq]
    by_cases hk : k < 0
    · exact .inr (h k hk)
    · exact .inl (by omega)
theorem vle_self (a : T) : vleB a a = true := vleB_iff.2 fun _ _ => Nat.le_refl _
theorem vle_trans {a b c : T} (h : vleB a b = true) (k : vleB b c = true) : vleB a c = true :=
  vleB_iff.2 fun j hj => Nat.le_trans (vleB_iff.1 k j hj) (vleB_iff.1 h j hj)
def sideG (a b : T) (n : Int) : Int := if 0 < n ∧ vleB a b = true then 1 else if n < 0 ∧ vleB b a = true then -1 else 2
mutual
def stT (gs : List Sy) : T → T → Int
  | .mk h us, b =>
    if T.mk h us = b then 0
    else if wgtG gs (.mk h us) ≠ wgtG gs b then sideG (.mk h us) b (wgtG gs (.mk h us) - wgtG gs b)
    else if h < 0 ∨ b.head < 0 then 2
    else if h ≠ b.head then sideG (.mk h us) b (h - b.head)
    else if stL gs us b.args = 0 then 0
    else if stL gs us b.args = 2 then 2
    else sideG (.mk h us) b (stL gs us b.args)
def stL (gs : List Sy) : List T → List T → Int
  | a :: r, b :: q => if stT gs a b ≠ 0 then stT gs a b else stL gs r q
  | _, _ => 0
end
theorem stT_eq (gs : List Sy) (a b : T) : stT gs a b =
    if a = b then 0
    else if wgtG gs a ≠ wgtG gs b then sideG a b (wgtG gs a - wgtG gs b)
    else if a.head < 0 ∨ b.head < 0 then 2
    else if a.head ≠ b.head then sideG a b (a.head - b.head)
    else if stL gs a.args b.args = 0 then 0
    else if stL gs a.args b.args = 2 then 2
    else sideG a b (stL gs a.args b.args) := by
  cases a; rw [stT]; rfl
def ngS (x : Int) : Int := if x = 2 then 2 else -x
theorem sideG_neg (a b : T) (n : Int) : sideG b a (-n) = ngS (sideG a b n) := by
  unfold sideG ngS
  rcases Int.lt_trichotomy n 0 with h | h | h
  · have h1 : 0 < -n := by omega
    have h2 : ¬ 0 < n := by omega
    have h3 : ¬ -n < 0 := by omega
    cases vleB b a <;> simp [h, h1, h2, h3]
  · subst h; simp
  · have h1 : -n < 0 := by omega
    have h2 : ¬ n < 0 := by omega
    have h3 : ¬ 0 < -n := by omega
    cases vleB a b <;> simp [h, h1, h2, h3]
theorem sideG_vals (a b : T) (n : Int) : sideG a b n = 1 ∨ sideG a b n = -1 ∨ sideG a b n = 2 := by
  unfold sideG; split
  · exact .inl rfl
  · split
    · exact .inr (.inl rfl)
    · exact .inr (.inr rfl)
mutual
theorem stT_vals (gs : List Sy) : ∀ (a b : T), stT gs a b = 0 ∨ stT gs a b = 1 ∨ stT gs a b = -1 ∨ stT gs a b = 2
  | .mk h us, b => by
    rw [stT]
    split
    · exact .inl rfl
    · split
      · exact .inr (sideG_vals _ _ _)
      · split
        · exact .inr (.inr (.inr rfl))
        · split
          · exact .inr (sideG_vals _ _ _)
          · split
            · exact .inl rfl
            · split
              · exact .inr (.inr (.inr rfl))
              · exact .inr (sideG_vals _ _ _)
theorem stL_vals (gs : List Sy) : ∀ (l m : List T), stL gs l m = 0 ∨ stL gs l m = 1 ∨ stL gs l m = -1 ∨ stL gs l m = 2
  | [], m => by cases m <;> exact .inl rfl
  | a :: r, [] => .inl rfl
  | a :: r, b :: q => by
    simp only [stL]
    split
    · exact stT_vals gs a b
    · exact stL_vals gs r q
end
mutual
theorem stT_neg (gs : List Sy) : ∀ (a b : T), stT gs b a = ngS (stT gs a b)
  | .mk h us, b => by
    rw [stT_eq gs b, stT_eq gs (.mk h us)]
    have e1 : (T.mk h us).head = h := rfl
    have e2 : (T.mk h us).args = us := rfl
    rw [e1, e2, stL_neg gs us b.args]
    by_cases h1 : T.mk h us = b
    · subst h1; rw [if_pos rfl, if_pos rfl]; rfl
    · rw [if_neg (fun e => h1 e.symm), if_neg h1]
      by_cases h2 : wgtG gs (.mk h us) = wgtG gs b
      · rw [if_neg (show ¬ (wgtG gs b ≠ wgtG gs (.mk h us)) by omega), if_neg (show ¬ (wgtG gs (.mk h us) ≠ wgtG gs b) by omega)]
        by_cases h3 : h < 0 ∨ b.head < 0
        · rw [if_pos (show b.head < 0 ∨ h < 0 by omega), if_pos h3]; rfl
        · rw [if_neg (show ¬ (b.head < 0 ∨ h < 0) by omega), if_neg h3]
          by_cases h4 : h = b.head
          · rw [if_neg (show ¬ (b.head ≠ h) by omega), if_neg (show ¬ (h ≠ b.head) by omega)]
            have hv := stL_vals gs us b.args
            generalize stL gs us b.args = c at hv
            rcases hv with rfl | rfl | rfl | rfl
            · rfl
            · exact sideG_neg _ _ 1
            · exact sideG_neg _ _ (-1)
            · rfl
          · rw [if_pos (show b.head ≠ h by omega), if_pos (show h ≠ b.head from h4), show b.head - h = -(h - b.head) by omega]; exact sideG_neg _ _ _
      · rw [if_pos (show wgtG gs b ≠ wgtG gs (.mk h us) by omega), if_pos (show wgtG gs (.mk h us) ≠ wgtG gs b from h2), show wgtG gs b - wgtG gs (.mk h us) = -(wgtG gs (.mk h us) - wgtG gs b) by omega]; exact sideG_neg _ _ _
theorem stL_neg (gs : List Sy) : ∀ (l m : List T), stL gs m l = ngS (stL gs l m)
  | [], m => by cases m <;> rfl
  | a :: r, [] => rfl
  | a :: r, b :: q => by
    simp only [stL]
    rw [stT_neg gs a b, stL_neg gs r q]
    by_cases h : stT gs a b = 0
    · rw [h]; rfl
    · have h2 : ngS (stT gs a b) ≠ 0 := by unfold ngS; split <;> omega
      rw [if_pos h, if_pos h2]
end
theorem stT_self (gs : List Sy) (a : T) : stT gs a a = 0 := by rw [stT_eq, if_pos rfl]
theorem stL_self (gs : List Sy) : ∀ l : List T, stL gs l l = 0
  | [] => rfl
  | a :: r => by simp [stL, stT_self, stL_self gs r]
/-- when a term is greater -/
theorem stT_one (gs : List Sy) (a b : T) : stT gs a b = 1 ↔ vleB a b = true ∧ (wgtG gs b < wgtG gs a ∨ (wgtG gs a = wgtG gs b ∧ 0 ≤ a.head ∧ 0 ≤ b.head ∧ (b.head < a.head ∨ (a.head = b.head ∧ stL gs a.args b.args = 1)))) := by
  rw [stT_eq]
  by_cases h1 : a = b
  · subst h1
    rw [if_pos rfl, stL_self]
    constructor
    · intro h; omega
    · rintro ⟨_, h | ⟨_, _, _, h | ⟨_, h⟩⟩⟩ <;> omega
  · rw [if_neg h1]
    by_cases h2 : wgtG gs a = wgtG gs b
    · rw [if_neg (by omega)]
      by_cases h3 : a.head < 0 ∨ b.head < 0
      · rw [if_pos h3]
        constructor
        · intro h; omega
        · rintro ⟨_, h | ⟨_, h, h', _⟩⟩ <;> omega
      · rw [if_neg h3]
        by_cases h4 : a.head = b.head
        · rw [if_neg (by omega)]
          have hv := stL_vals gs a.args b.args
          generalize stL gs a.args b.args = c at hv
          have h5 : 0 ≤ a.head ∧ 0 ≤ b.head := by omega
          rcases hv with rfl | rfl | rfl | rfl
          · simp [h2, h4]
          · unfold sideG; cases vleB a b <;> simp [h2, h4] <;> omega
          · unfold sideG; cases vleB b a <;> simp [h2, h4]
          · simp [h2, h4]
        · rw [if_pos h4]
          unfold sideG
          cases vleB a b
          · simp; split <;> omega
          · by_cases h5 : b.head < a.head
            · simp [h2, h5] <;> omega
            · simp [h2, h5, h4]; split <;> omega
    · rw [if_pos h2]
      unfold sideG
      cases vleB a b
      · simp; split <;> omega
      · by_cases h5 : wgtG gs b < wgtG gs a
        · simp [h5] <;> omega
        · simp [h5, h2]; split <;> omega

/-! ### on right terms -/
theorem OkG.arity {gs : List Sy} {t : T} (h : OkG gs t) (h0 : 0 ≤ t.head) : (t.args.length : Int) = arG gs t.head := by
  have h1 := h.unk
  unfold unkG at h1
  rw [visT_eq, List.any_cons, Bool.or_eq_false_iff] at h1
  have h2 := h1.1
  simp only [unkB, Bool.and_eq_false_iff, decide_eq_false_iff_not, Bool.or_eq_false_iff] at h2
  rcases h2 with h2 | h2
  · exact absurd h0 h2
  · have := h2.2; simpa using this
theorem OkG.args {gs : List Sy} {t : T} (h : OkG gs t) : ∀ x ∈ t.args, OkG gs x := fun x hx => by
  obtain ⟨i, hi, rfl⟩ := List.getElem_of_mem hx
  exact (h.child i hi).1
theorem OkG.leaf {gs : List Sy} {t : T} (h : OkG gs t) (hn : t.head < 0) : t.args = [] := (chk_vis h.chk (true, t) (by rw [visT_eq]; exact List.mem_cons_self ..)).1 hn
mutual
theorem stT_zero {gs : List Sy} : ∀ {a b : T}, OkG gs a → OkG gs b → stT gs a b = 0 → a = b
  | .mk h us, b, ha, hb, e => by
    rw [stT_eq] at e
    by_cases h1 : T.mk h us = b
    · exact h1
    · rw [if_neg h1] at e
      have hs : ∀ n, sideG (T.mk h us) b n ≠ 0 := fun n => by rcases sideG_vals (T.mk h us) b n with q | q | q <;> omega
      by_cases h2 : wgtG gs (T.mk h us) = wgtG gs b
      · rw [if_neg (by omega)] at e
        by_cases h3 : (T.mk h us).head < 0 ∨ b.head < 0
        · rw [if_pos h3] at e; omega
        · rw [if_neg h3] at e
          by_cases h4 : (T.mk h us).head = b.head
          · have ea : (T.mk h us).args = us := rfl
            rw [if_neg (by omega), ea] at e
            by_cases h5 : stL gs us b.args = 0
            · have l1 := ha.arity (by omega)
              have l2 := hb.arity (by omega)
              rw [h4] at l1
              have hl : us.length = b.args.length := by
                have : ((T.mk h us).args.length : Int) = b.args.length := by omega
                exact Int.ofNat.inj this
              have := stL_zero hl ha.args hb.args h5
              cases b
              simp only [T.args] at this
              simp only [T.head] at h4
              rw [this, h4]
            · rw [if_neg h5] at e
              split at e
              · omega
              · exact absurd e (hs _)
          · rw [if_pos h4] at e; exact absurd e (hs _)
      · rw [if_pos h2] at e; exact absurd e (hs _)
theorem stL_zero {gs : List Sy} : ∀ {l m : List T}, l.length = m.length → (∀ x ∈ l, OkG gs x) → (∀ x ∈ m, OkG gs x) → stL gs l m = 0 → l = m
  | [], [], _, _, _, _ => rfl
  | [], _ :: _, h, _, _, _ => by simp at h
  | _ :: _, [], h, _, _, _ => by simp at h
  | a :: r, b :: q, h, ha, hb, e => by
    simp only [stL] at e
    by_cases h1 : stT gs a b = 0
    · rw [if_neg (by omega)] at e
      rw [stT_zero (ha a (List.mem_cons_self ..)) (hb b (List.mem_cons_self ..)) h1, stL_zero (by simpa using h) (fun x hx => ha x (List.mem_cons_of_mem _ hx)) (fun x hx => hb x (List.mem_cons_of_mem _ hx)) e]
    · rw [if_pos h1] at e; exact absurd e h1
end
theorem stT_trans {gs : List Sy} : ∀ (n : Nat) (a b c : T), a.size ≤ n → OkG gs a → OkG gs b → OkG gs c → stT gs a b = 1 → stT gs b c = 1 → stT gs a c = 1 := by
  intro n
  induction n with
  | zero => intro a b c h; have := a.size_pos; omega
  | succ n ih =>
    intro a b c hn ha hb hc h1 h2
    rw [stT_one] at h1 h2 ⊢
    obtain ⟨v1, h1⟩ := h1
    obtain ⟨v2, h2⟩ := h2
    refine ⟨vle_trans v1 v2, ?_⟩
    rcases h1 with h1 | ⟨e1, p1, q1, h1⟩
    · left; rcases h2 with h2 | ⟨e2, _⟩ <;> omega
    · rcases h2 with h2 | ⟨e2, p2, q2, h2⟩
      · left; omega
      · right
        refine ⟨by omega, p1, q2, ?_⟩
        rcases h1 with h1 | ⟨f1, h1⟩
        · left; rcases h2 with h2 | ⟨f2, _⟩ <;> omega
        · rcases h2 with h2 | ⟨f2, h2⟩
          · left; omega
          · right
            refine ⟨by omega, ?_⟩
            have key : ∀ (l m p : List T), (∀ x ∈ l, x.size ≤ n ∧ OkG gs x) → (∀ x ∈ m, OkG gs x) → (∀ x ∈ p, OkG gs x) → stL gs l m = 1 → stL gs m p = 1 → stL gs l p = 1 := by
              intro l
              induction l with
              | nil => intro m p _ _ _ h; cases m <;> simp [stL] at h
              | cons x l ihl =>
                intro m p hl hm hp g1 g2
                cases m with
                | nil => simp [stL] at g1
                | cons y m =>
                  cases p with
                  | nil => simp [stL] at g2
                  | cons z p =>
                    simp only [stL] at g1 g2 ⊢
                    obtain ⟨hx1, hx2⟩ := hl x (List.mem_cons_self ..)
                    have hy := hm y (List.mem_cons_self ..)
                    have hz := hp z (List.mem_cons_self ..)
                    by_cases c1 : stT gs x y = 0
                    · rw [if_neg (by omega)] at g1
                      have exy := stT_zero hx2 hy c1
                      subst exy
                      by_cases c2 : stT gs x z = 0
                      · rw [if_neg (by omega)] at g2
                        rw [if_neg (by omega)]
                        exact ihl m p (fun w hw => hl w (List.mem_cons_of_mem _ hw)) (fun w hw => hm w (List.mem_cons_of_mem _ hw)) (fun w hw => hp w (List.mem_cons_of_mem _ hw)) g1 g2
                      · rw [if_pos c2] at g2
                        rw [if_pos c2]; exact g2
                    · rw [if_pos c1] at g1
                      by_cases c2 : stT gs y z = 0
                      · have eyz := stT_zero hy hz c2
                        subst eyz
                        rw [if_pos c1]; exact g1
                      · rw [if_pos c2] at g2
                        have := ih x y z hx1 hx2 hy hz g1 g2
                        rw [this]; simp
            refine key a.args b.args c.args (fun x hx => ⟨?_, ha.args x hx⟩) hb.args hc.args h1 h2
            obtain ⟨i, hi, rfl⟩ := List.getElem_of_mem hx
            have := sizeL_mem a.args i hi
            have := size_eqT a
            omega
/-- without variables -/
theorem stT_ground {gs : List Sy} : ∀ (n : Nat) (a b : T), a.size ≤ n → OkG gs a → OkG gs b → (∀ k ∈ hds a, 0 ≤ k) → (∀ k ∈ hds b, 0 ≤ k) → stT gs a b ≠ 2 := by
  intro n
  induction n with
  | zero => intro a b h; have := a.size_pos; omega
  | succ n ih =>
    intro a b hn ha hb va vb
    have q1 : vleB a b = true := vleB_iff.2 fun k hk => by
      have : cn b k = 0 := List.count_eq_zero.2 (fun hm => by have := vb k hm; omega)
      omega
    have q2 : vleB b a = true := vleB_iff.2 fun k hk => by
      have : cn a k = 0 := List.count_eq_zero.2 (fun hm => by have := va k hm; omega)
      omega
    have hs : ∀ n, n ≠ 0 → sideG a b n ≠ 2 := fun n hn => by
      unfold sideG; rw [q1, q2]; simp only [and_true]; split
      · omega
      · rw [if_pos (by omega)]; omega
    have hah : 0 ≤ a.head := va _ (by unfold hds; rw [visT_eq]; simp)
    have hbh : 0 ≤ b.head := vb _ (by unfold hds; rw [visT_eq]; simp)
    rw [stT_eq]
    by_cases h1 : a = b
    · rw [if_pos h1]; omega
    · rw [if_neg h1]
      by_cases h2 : wgtG gs a = wgtG gs b
      · rw [if_neg (by omega), if_neg (by omega)]
        by_cases h4 : a.head = b.head
        · rw [if_neg (by omega)]
          have key : ∀ (l m : List T), (∀ x ∈ l, x.size ≤ n ∧ OkG gs x ∧ ∀ k ∈ hds x, 0 ≤ k) → (∀ x ∈ m, OkG gs x ∧ ∀ k ∈ hds x, 0 ≤ k) → stL gs l m ≠ 2 := by
            intro l
            induction l with
            | nil => intro m _ _; cases m <;> simp [stL]
            | cons x l ihl =>
              intro m hl hm
              cases m with
              | nil => simp [stL]
              | cons y m =>
                simp only [stL]
                split
                · obtain ⟨x1, x2, x3⟩ := hl x (List.mem_cons_self ..)
                  obtain ⟨y2, y3⟩ := hm y (List.mem_cons_self ..)
                  exact ih x y x1 x2 y2 x3 y3
                · exact ihl m (fun w hw => hl w (List.mem_cons_of_mem _ hw)) (fun w hw => hm w (List.mem_cons_of_mem _ hw))
          have sub : ∀ {t : T} {x : T}, x ∈ t.args → ∀ k ∈ hds x, k ∈ hds t := fun {t x} hx k hk => by
            obtain ⟨i, hi, rfl⟩ := List.getElem_of_mem hx
            unfold hds at hk ⊢
            rw [visT_eq, List.map_cons, List.mem_cons]
            right
            obtain ⟨y, hy, rfl⟩ := List.mem_map.1 hk
            rw [visL_split t.args i hi, List.map_append, List.map_append, List.mem_append, List.mem_append]
            right; left
            rw [visT_eq] at hy ⊢
            rcases List.mem_cons.1 hy with rfl | hy
            · simp
            · rw [List.map_cons]; exact List.mem_cons_of_mem _ (List.mem_map_of_mem (f := fun y : Bool × T => y.2.head) hy)
          have hk := key a.args b.args (fun x hx => ⟨by
            obtain ⟨i, hi, rfl⟩ := List.getElem_of_mem hx
            have := sizeL_mem a.args i hi
            have := size_eqT a
            omega, ha.args x hx, fun k hk => va k (sub hx k hk)⟩) (fun x hx => ⟨hb.args x hx, fun k hk => vb k (sub hx k hk)⟩)
          by_cases h5 : stL gs a.args b.args = 0
          · rw [if_pos h5]; omega
          · rw [if_neg h5, if_neg hk]; exact hs _ h5
        · rw [if_pos h4]; exact hs _ (by omega)
      · rw [if_pos h2]; exact hs _ (by omega)
end Go.Proofs.Ytegceppoioeeaaa
/- The order of terms and places, and what is put: plain facts. No condition. -/
set_option linter.unusedVariables false
set_option linter.unusedSimpArgs false
namespace Go.Proofs.Ytegceppoioeeaaa

/-! ### counts -/
def cnV (l : List (Bool × T)) (k : Int) : Nat := (l.map (·.2.head)).count k
theorem cnV_app (a b : List (Bool × T)) (k : Int) : cnV (a ++ b) k = cnV a k + cnV b k := by simp [cnV, List.count_append]
theorem cnV_T (b : Bool) (t : T) (k : Int) : cnV (visT b t) k = cn t k := by
  show ((visT b t).map (·.2.head)).count k = ((visT true t).map (·.2.head)).count k
  rw [visT_eq, visT_eq]; rfl
theorem cn_eq (t : T) (k : Int) : cn t k = (if t.head = k then 1 else 0) + cnV (visL t.args) k := by
  show ((visT true t).map (·.2.head)).count k = _
  rw [visT_eq, List.map_cons, List.count_cons]
  unfold cnV
  by_cases h : t.head = k
  · simp [h]; omega
  · simp [h]
theorem cnV_split (us : List T) (i : Nat) (hi : i < us.length) (k : Int) : cnV (visL us) k = cnV (visL (us.take i)) k + (cn us[i] k + cnV (visL (us.drop (i + 1))) k) := by
  rw [visL_split us i hi, cnV_app, cnV_app, cnV_T]
theorem vle_child {t : T} (i : Nat) (hi : i < t.args.length) : vleB t t.args[i] = true := vleB_iff.2 fun k _ => by
  rw [cn_eq t, cnV_split t.args i hi]; omega
theorem vle_at : ∀ (p : List Int) {t u : T}, atT t p = some u → vleB t u = true
  | [], t, u, h => by simp [atT] at h; subst h; exact vle_self _
  | x :: r, t, u, h => by
    rw [atT_c] at h
    split at h
    · rename_i hx; exact vle_trans (vle_child x.toNat hx.2) (vle_at r h)
    · cases h
/-- a part that is not the term itself is less -/
theorem stT_part {gs : List Sy} {t u : T} {p : List Int} (h : OkG gs t) (hp : p ≠ []) (hu : atT t p = some u) : stT gs t u = 1 := by
  rw [stT_one]
  refine ⟨vle_at p hu, .inl ?_⟩
  rcases (h.at p hu).2 with h | h
  · exact absurd h hp
  · exact h

/-! ### the same around both -/
theorem sideG_same {a b a' b' : T} {n : Int} (h1 : vleB a' b' = vleB a b) (h2 : vleB b' a' = vleB b a) : sideG a' b' n = sideG a b n := by unfold sideG; rw [h1, h2]
theorem set_drop {us : List T} {i : Nat} (hi : i < us.length) (a : T) : us.set i a = us.take i ++ a :: us.drop (i + 1) := by
  rw [List.set_eq_take_append_cons_drop, if_pos hi]
theorem cn_set (h : Int) {us : List T} {i : Nat} (hi : i < us.length) (a : T) (k : Int) : cn (.mk h (us.set i a)) k = (if h = k then 1 else 0) + (cnV (visL (us.take i)) k + (cn a k + cnV (visL (us.drop (i + 1))) k)) := by
  rw [cn_eq]
  show (if h = k then 1 else 0) + cnV (visL (us.set i a)) k = _
  rw [set_drop hi, visL_app, cnV_app]
  simp only [visL, cnV_app, cnV_T]
theorem wgt_set (gs : List Sy) (h : Int) {us : List T} {i : Nat} (hi : i < us.length) (a : T) : wgtG gs (.mk h (us.set i a)) = wB gs h + (sumV gs (visL (us.take i)) + (wgtG gs a + sumV gs (visL (us.drop (i + 1))))) := by
  rw [wgtG_eq]
  show wB gs h + sumV gs (visL (us.set i a)) = _
  rw [set_drop hi, visL_app, sumV_app]
  simp only [visL, sumV_app, sumV_T]
theorem stL_set (gs : List Sy) (a b : T) (hab : stT gs a b ≠ 0) : ∀ (us : List T) (i : Nat), i < us.length → stL gs (us.set i a) (us.set i b) = stT gs a b
  | x :: r, 0, _ => by simp [stL, hab]
  | x :: r, i + 1, h => by
    simp only [List.set_cons_succ, stL, stT_self]
    rw [if_neg (by omega)]
    exact stL_set gs a b hab r i (by simpa using h)
theorem stT_ctx {gs : List Sy} {h : Int} {us : List T} {i : Nat} {a b : T} (hi : i < us.length) (ha : OkG gs (.mk h (us.set i a))) (hb : OkG gs (.mk h (us.set i b))) : stT gs (.mk h (us.set i a)) (.mk h (us.set i b)) = stT gs a b := by
  have ha' : OkG gs a := by
    have := (ha.child i (by show i < (us.set i a).length; simpa using hi)).1
    change OkG gs ((us.set i a)[i]'(by simpa using hi)) at this
    simpa using this
  have hb' : OkG gs b := by
    have := (hb.child i (by show i < (us.set i b).length; simpa using hi)).1
    change OkG gs ((us.set i b)[i]'(by simpa using hi)) at this
    simpa using this
  by_cases hab : a = b
  · subst hab; rw [stT_self, stT_self]
  · have hz : stT gs a b ≠ 0 := fun e => hab (stT_zero ha' hb' e)
    have hne : T.mk h (us.set i a) ≠ T.mk h (us.set i b) := fun e => hab (by
      injection e with _ e
      have := congrArg (·[i]?) e
      simpa [hi] using this)
    have v1 : vleB (.mk h (us.set i a)) (.mk h (us.set i b)) = vleB a b := by
      rw [Bool.eq_iff_iff, vleB_iff, vleB_iff]
      constructor
      · intro q k hk; have := q k hk; rw [cn_set h hi, cn_set h hi] at this; omega
      · intro q k hk; have := q k hk; rw [cn_set h hi, cn_set h hi]; omega
    have v2 : vleB (.mk h (us.set i b)) (.mk h (us.set i a)) = vleB b a := by
      rw [Bool.eq_iff_iff, vleB_iff, vleB_iff]
      constructor
      · intro q k hk; have := q k hk; rw [cn_set h hi, cn_set h hi] at this; omega
      · intro q k hk; have := q k hk; rw [cn_set h hi, cn_set h hi]; omega
    have hw : wgtG gs (.mk h (us.set i a)) - wgtG gs (.mk h (us.set i b)) = wgtG gs a - wgtG gs b := by rw [wgt_set gs h hi, wgt_set gs h hi]; omega
    rw [stT_eq gs (.mk h (us.set i a)), if_neg hne]
    by_cases h2 : wgtG gs a = wgtG gs b
    · have h0 : ¬ h < 0 := fun hn => by
        have := ha.leaf hn
        change us.set i a = [] at this
        have hl := congrArg List.length this
        simp at hl; subst hl; simp at hi
      rw [if_neg (by omega)]
      rw [if_neg (by show ¬ (h < 0 ∨ h < 0); omega), if_neg (by show ¬ (h ≠ h); simp)]
      show (if stL gs (us.set i a) (us.set i b) = 0 then 0 else if stL gs (us.set i a) (us.set i b) = 2 then 2 else sideG _ _ (stL gs (us.set i a) (us.set i b))) = _
      rw [stL_set gs a b hz us i hi, if_neg hz]
      have hone := (stT_one gs a b)
      have hneg := (stT_one gs b a)
      rw [stT_neg gs a b] at hneg
      rcases stT_vals gs a b with q | q | q | q
      · exact absurd q hz
      · rw [q, if_neg (by omega)]
        unfold sideG
        rw [v1, (hone.1 q).1]; simp
      · rw [q, if_neg (by omega)]
        have hq : ngS (stT gs a b) = 1 := by rw [q]; rfl
        unfold sideG
        rw [v2, (hneg.1 hq).1]; simp
      · rw [q, if_pos rfl]
    · rw [if_pos (by omega), sideG_same v1 v2, hw, stT_eq gs a b, if_neg hab, if_pos h2]
theorem stT_put {gs : List Sy} : ∀ (p : List Int) {t a b : T}, (atT t p).isSome = true → OkG gs (putT t p a) → OkG gs (putT t p b) → stT gs (putT t p a) (putT t p b) = stT gs a b
  | [], t, a, b, _, _, _ => by simp [putT]
  | x :: r, t, a, b, hs, ha, hb => by
    obtain ⟨i, rfl, hi, hs'⟩ := atT_cons hs
    rw [putT_c t a i r hi] at ha ⊢
    rw [putT_c t b i r hi] at hb ⊢
    rw [stT_ctx hi ha hb]
    have h1 := (ha.child i (by show i < (t.args.set i _).length; simpa using hi)).1
    have h2 := (hb.child i (by show i < (t.args.set i _).length; simpa using hi)).1
    change OkG gs ((t.args.set i (putT t.args[i] r a))[i]'(by simpa using hi)) at h1
    change OkG gs ((t.args.set i (putT t.args[i] r b))[i]'(by simpa using hi)) at h2
    rw [List.getElem_set_self] at h1 h2
    exact stT_put r hs' h1 h2

/-! ### what is put -/
theorem accF_le {F : Int → Int} {la lb : List Int} : ∀ n : Nat, (∀ v : Nat, v < n → ((lb.count (-1 - (v : Int)) : Nat) : Int) * F (-1 - (v : Int)) ≤ ((la.count (-1 - (v : Int)) : Nat) : Int) * F (-1 - (v : Int))) → accF F lb n ≤ accF F la n
  | 0, _ => Int.le_refl _
  | n + 1, h => by
    simp only [accF]
    have h1 := accF_le n (fun v hv => h v (by omega))
    have h2 := h n (by omega)
    omega
theorem accF_diff {F : Int → Int} {la lb : List Int} (n : Nat) (h : ∀ v : Nat, v < n → ((lb.count (-1 - (v : Int)) : Nat) : Int) * F (-1 - (v : Int)) ≤ ((la.count (-1 - (v : Int)) : Nat) : Int) * F (-1 - (v : Int))) : accF F lb n ≤ accF F la n := accF_le n h
mutual
theorem cn_rb (f : T → T) (k : Int) (hk : k < 0) : ∀ (t : T), (∀ x ∈ visT true t, x.2.head < 0 → x.2.args = []) → ((cn (rbT f t) k : Nat) : Int) = ((visT true t).map fun x => if x.2.head < 0 then ((cn (f (.mk x.2.head [])) k : Nat) : Int) else 0).sum
  | .mk h us, hx => by
    have h0 := hx (true, .mk h us) (by simp [visT])
    have e0 : (T.mk h us).head = h := rfl
    have e1 : (T.mk h us).args = us := rfl
    simp only [e0, e1] at h0
    simp only [rbT, visT, List.map_cons, List.sum_cons, e0]
    by_cases hn : h < 0
    · have := h0 hn
      subst this
      rw [if_pos hn, if_pos hn]; simp [visL]
    · rw [if_neg hn, if_neg hn, cn_eq]
      show (((if h = k then 1 else 0) + cnV (visL (rbL f us)) k : Nat) : Int) = _
      rw [if_neg (by omega), ← cn_rbL f k hk us (fun x hx' => hx x (by simp [visT, hx']))]
      simp
theorem cn_rbL (f : T → T) (k : Int) (hk : k < 0) : ∀ (us : List T), (∀ x ∈ visL us, x.2.head < 0 → x.2.args = []) → ((cnV (visL (rbL f us)) k : Nat) : Int) = ((visL us).map fun x => if x.2.head < 0 then ((cn (f (.mk x.2.head [])) k : Nat) : Int) else 0).sum
  | [], _ => by simp [rbL, visL, cnV]
  | t :: r, hx => by
    simp only [rbL, visL, cnV_app, cnV_T, List.map_append, List.sum_append, Int.natCast_add]
    rw [cn_rbL f k hk r (fun x hx' => hx x (by simp [visL, hx']))]
    have e : ∀ x ∈ visT true t, x.2.head < 0 → x.2.args = [] := fun x hx' => by
      rw [visT_eq] at hx'
      rcases List.mem_cons.1 hx' with rfl | hx'
      · exact hx (false, t) (by simp [visL, visT_eq])
      · exact hx x (by simp [visL, visT_eq, hx'])
    rw [cn_rb f k hk t e]
    congr 1
    rw [visT_eq true, visT_eq false]; rfl
end
theorem cn_sb {gs : List Sy} {bs : List Bi} {t : T} (h : OkG gs t) {k : Int} (hk : k < 0) : ((cn (sbT bs t) k : Nat) : Int) = accF (fun j => ((cn (ofT bs (.mk j [])) k : Nat) : Int)) (hds t) 256 := by
  have hv := chk_vis h.chk
  rw [accF_sum _ _ (fun j hj => by obtain ⟨x, hx, rfl⟩ := List.mem_map.1 hj; exact (hv x hx).2)]
  unfold sbT
  rw [cn_rb (ofT bs) k hk t (fun x hx => (hv x hx).1)]
  unfold hds
  rw [List.map_map]; rfl
theorem wgt_sb {gs : List Sy} {bs : List Bi} {t : T} (h : OkG gs t) : wgtG gs (sbT bs t) = wgtG gs t + accF (moreF gs bs) (hds t) 256 := by
  have hv := chk_vis h.chk
  rw [accF_sum _ _ (fun k hk => by obtain ⟨x, hx, rfl⟩ := List.mem_map.1 hk; exact (hv x hx).2)]
  unfold sbT
  rw [wgt_rb gs (ofT bs) t (fun x hx => (hv x hx).1)]
  unfold wgtG hds
  rw [List.map_map, List.map_map]
  generalize visT true t = l
  induction l with
  | nil => rfl
  | cons x r ih =>
    simp only [List.map_cons, List.sum_cons, ih, Function.comp]
    by_cases hn : x.2.head < 0
    · simp only [if_pos hn, wB, moreF, wgtG, hds]; omega
    · simp only [if_neg hn, wB]; omega
theorem more_nonneg {gs : List Sy} {bs : List Bi} {t : T} (h : OkG gs t) (hU : OkG gs (sbT bs t)) {k : Int} (hk : k < 0) (hc : 0 < cn t k) : 0 ≤ moreF gs bs k := by
  have hv := chk_vis h.chk
  obtain ⟨x, hx, hxh⟩ := List.mem_map.1 (List.count_pos_iff.1 hc)
  have hneg : x.2.head < 0 := by omega
  have h1 := vis_ok (ofT bs) t.size t (Nat.le_refl _) true (fun y hy => (hv y hy).1) hU x hx hneg
  have ha := (hv x hx).1 hneg
  have e : x.2 = .mk k [] := by
    obtain ⟨b, h, us⟩ := x
    change h = _ at hxh
    change us = [] at ha
    subst hxh; subst ha; rfl
  rw [e] at h1
  have h2 := wgtG_range h1
  have h3 := (ofT bs (.mk k [])).size_pos
  unfold moreF; omega
theorem vle_sb {gs : List Sy} {bs : List Bi} {a b : T} (ha : OkG gs a) (hb : OkG gs b) (h : vleB a b = true) : vleB (sbT bs a) (sbT bs b) = true := vleB_iff.2 fun k hk => by
  have h1 := vleB_iff.1 h
  have := accF_le (F := fun j => ((cn (ofT bs (.mk j [])) k : Nat) : Int)) (la := hds a) (lb := hds b) 256 (fun v _ => Int.mul_le_mul_of_nonneg_right (by have h2 : (hds b).count (-1 - (v : Int)) ≤ (hds a).count (-1 - (v : Int)) := h1 (-1 - (v : Int)) (by omega); omega) (by omega))
  rw [← cn_sb ha hk, ← cn_sb hb hk] at this
  omega
theorem wgt_sb_le {gs : List Sy} {bs : List Bi} {a b : T} (ha : OkG gs a) (hb : OkG gs b) (hUa : OkG gs (sbT bs a)) (h : vleB a b = true) : wgtG gs a - wgtG gs b ≤ wgtG gs (sbT bs a) - wgtG gs (sbT bs b) := by
  have h1 := vleB_iff.1 h
  have := accF_le (F := moreF gs bs) (la := hds a) (lb := hds b) 256 (fun v _ => by
    have h2 : (hds b).count (-1 - (v : Int)) ≤ (hds a).count (-1 - (v : Int)) := h1 (-1 - (v : Int)) (by omega)
    by_cases hc : (hds a).count (-1 - (v : Int)) = 0
    · have e2 : (hds b).count (-1 - (v : Int)) = 0 := by omega
      rw [hc, e2]; exact Int.le_refl _
    · have hpos : 0 < cn a (-1 - (v : Int)) := by show 0 < (hds a).count (-1 - (v : Int)); omega
      exact Int.mul_le_mul_of_nonneg_right (by omega) (more_nonneg ha hUa (by omega) hpos))
  rw [wgt_sb ha, wgt_sb hb]; omega
theorem sbT_head {bs : List Bi} {t : T} (h : 0 ≤ t.head) : (sbT bs t).head = t.head ∧ (sbT bs t).args = t.args.map (sbT bs) := by
  obtain ⟨k, us⟩ := t
  change 0 ≤ k at h
  have : sbT bs (.mk k us) = .mk k (rbL (ofT bs) us) := by unfold sbT; simp only [rbT]; rw [if_neg (by omega)]
  rw [this]
  exact ⟨rfl, rbL_map _ _⟩
theorem stT_sb {gs : List Sy} {bs : List Bi} : ∀ (n : Nat) (a b : T), a.size ≤ n → OkG gs a → OkG gs b → OkG gs (sbT bs a) → OkG gs (sbT bs b) → stT gs a b = 1 → stT gs (sbT bs a) (sbT bs b) = 1 := by
  intro n
  induction n with
  | zero => intro a b h; have := a.size_pos; omega
  | succ n ih =>
    intro a b hn ha hb hUa hUb h1
    rw [stT_one] at h1 ⊢
    obtain ⟨v1, h1⟩ := h1
    have hw := wgt_sb_le ha hb hUa v1
    refine ⟨vle_sb ha hb v1, ?_⟩
    rcases h1 with h1 | ⟨e1, p1, q1, h1⟩
    · left; omega
    · by_cases hlt : wgtG gs (sbT bs b) < wgtG gs (sbT bs a)
      · exact .inl hlt
      · right
        obtain ⟨s1, s2⟩ := sbT_head (bs := bs) p1
        obtain ⟨r1, r2⟩ := sbT_head (bs := bs) q1
        refine ⟨by omega, by omega, by omega, ?_⟩
        rcases h1 with h1 | ⟨f1, h1⟩
        · left; omega
        · right
          refine ⟨by omega, ?_⟩
          rw [s2, r2]
          have key : ∀ (l m : List T), (∀ x ∈ l, x.size ≤ n ∧ OkG gs x ∧ OkG gs (sbT bs x)) → (∀ x ∈ m, OkG gs x ∧ OkG gs (sbT bs x)) → stL gs l m = 1 → stL gs (l.map (sbT bs)) (m.map (sbT bs)) = 1 := by
            intro l
            induction l with
            | nil => intro m _ _ h; cases m <;> simp [stL] at h
            | cons x l ihl =>
              intro m hl hm g
              cases m with
              | nil => simp [stL] at g
              | cons y m =>
                simp only [stL, List.map_cons] at g ⊢
                obtain ⟨x1, x2, x3⟩ := hl x (List.mem_cons_self ..)
                obtain ⟨y2, y3⟩ := hm y (List.mem_cons_self ..)
                by_cases c1 : stT gs x y = 0
                · rw [if_neg (by omega)] at g
                  have exy := stT_zero x2 y2 c1
                  subst exy
                  rw [stT_self, if_neg (by omega)]
                  exact ihl m (fun w hw => hl w (List.mem_cons_of_mem _ hw)) (fun w hw => hm w (List.mem_cons_of_mem _ hw)) g
                · rw [if_pos c1] at g
                  rw [ih x y x1 x2 y2 x3 y3 g]; simp
          have hUa' : ∀ x ∈ a.args, OkG gs (sbT bs x) := fun x hx => hUa.args _ (by rw [s2]; exact List.mem_map_of_mem hx)
          have hUb' : ∀ x ∈ b.args, OkG gs (sbT bs x) := fun x hx => hUb.args _ (by rw [r2]; exact List.mem_map_of_mem hx)
          refine key a.args b.args (fun x hx => ⟨?_, ha.args x hx, hUa' x hx⟩) (fun x hx => ⟨hb.args x hx, hUb' x hx⟩) h1
          obtain ⟨i, hi, rfl⟩ := List.getElem_of_mem hx
          have := sizeL_mem a.args i hi
          have := size_eqT a
          omega
theorem stT_puts {gs : List Sy} {bs : List Bi} {a b : T} (ha : OkG gs a) (hb : OkG gs b) (hUa : OkG gs (sbT bs a)) (hUb : OkG gs (sbT bs b)) (h : stT gs a b ≠ 2) : stT gs (sbT bs a) (sbT bs b) = stT gs a b := by
  rcases stT_vals gs a b with q | q | q | q
  · have := stT_zero ha hb q; subst this; rw [stT_self, stT_self]
  · rw [q]; exact stT_sb a.size a b (Nat.le_refl _) ha hb hUa hUb q
  · rw [q]
    have h1 : stT gs b a = 1 := by rw [stT_neg gs a b, q]; rfl
    have h2 := stT_sb b.size b a (Nat.le_refl _) hb ha hUb hUa h1
    rw [stT_neg gs (sbT bs b), h2]; rfl
  · exact absurd q h
end Go.Proofs.Ytegceppoioeeaaa
/- Rows of terms: plain facts. No condition. -/
set_option linter.unusedVariables false
set_option linter.unusedSimpArgs false
namespace Go.Proofs.Ytegceppoioeeaaa

/-- a row without what another one has, as often -/
def rsL : List T → List T → List T
  | [], _ => []
  | t :: r, left => if t ∈ left then rsL r (left.erase t) else t :: rsL r left
theorem rsL_count (x : T) : ∀ (l m : List T), (rsL l m).count x = l.count x - m.count x
  | [], m => by simp [rsL]
  | t :: r, m => by
    simp only [rsL]
    by_cases h : t ∈ m
    · rw [if_pos h, rsL_count x r, List.count_cons, List.count_erase]
      have hp := List.count_pos_iff.2 h
      by_cases e : t = x
      · subst e; simp; omega
      · have e2 : (t == x) = false := by simp [e]
        have e3 : (x == t) = false := by simp [Ne.symm e]
        simp [e2, e3]
    · rw [if_neg h, List.count_cons, List.count_cons, rsL_count x r]
      by_cases e : t = x
      · subst e
        have : m.count t = 0 := List.count_eq_zero.2 h
        simp; omega
      · have e2 : (t == x) = false := by simp [e]
        simp [e2]
theorem rsL_perm {l m l' m' : List T} (h : ∀ x, l.count x - m.count x = l'.count x - m'.count x) : (rsL l m).Perm (rsL l' m') :=
  List.perm_iff_count.2 fun x => by rw [rsL_count, rsL_count]; exact h x
theorem rsL_mem {l m : List T} {x : T} (h : x ∈ rsL l m) : x ∈ l := by
  have := List.count_pos_iff.2 h
  rw [rsL_count] at this
  exact List.count_pos_iff.1 (by omega)
theorem rsL_len : ∀ (l m : List T), (rsL l m).length ≤ l.length
  | [], m => by simp [rsL]
  | t :: r, m => by
    simp only [rsL]
    split
    · have := rsL_len r (m.erase t); simp; omega
    · have := rsL_len r m; simp; omega
def overL (gs : List Sy) (a b : List T) : Bool := decide (0 < a.length) && b.all fun u => a.any fun t => decide (stT gs t u = 1)
theorem overL_perm {gs : List Sy} {a b a' b' : List T} (h : a.Perm a') (k : b.Perm b') : overL gs a b = overL gs a' b' := by
  unfold overL
  rw [h.length_eq]
  congr 1
  rw [Bool.eq_iff_iff, List.all_eq_true, List.all_eq_true]
  constructor
  · intro q u hu
    have := q u (k.mem_iff.2 hu)
    rw [List.any_eq_true] at this ⊢
    obtain ⟨t, ht, h2⟩ := this
    exact ⟨t, h.mem_iff.1 ht, h2⟩
  · intro q u hu
    have := q u (k.mem_iff.1 hu)
    rw [List.any_eq_true] at this ⊢
    obtain ⟨t, ht, h2⟩ := this
    exact ⟨t, h.mem_iff.2 ht, h2⟩
def mulG (gs : List Sy) (a b : List T) : Int :=
  if (rsL a b).length + (rsL b a).length = 0 then 0 else if overL gs (rsL a b) (rsL b a) = true then 1 else if overL gs (rsL b a) (rsL a b) = true then -1 else 2
theorem mulG_perm {gs : List Sy} {a b a' b' : List T} (h : (rsL a b).Perm (rsL a' b')) (k : (rsL b a).Perm (rsL b' a')) : mulG gs a b = mulG gs a' b' := by
  unfold mulG
  rw [h.length_eq, k.length_eq, overL_perm h k, overL_perm k h]
/-- what both have plays no part -/
theorem mulG_both (gs : List Sy) (a b : List T) (t : T) : mulG gs (t :: a) (b ++ [t]) = mulG gs a b := by
  refine mulG_perm (rsL_perm fun x => ?_) (rsL_perm fun x => ?_)
  · simp [List.count_cons, List.count_append]; omega
  · simp [List.count_cons, List.count_append]; omega
/-- one more is greater -/
theorem mulG_more (gs : List Sy) (a : List T) (t : T) : mulG gs (t :: a) a = 1 := by
  have h1 : rsL a (t :: a) = [] := by
    have : ∀ x, (rsL a (t :: a)).count x = 0 := fun x => by rw [rsL_count, List.count_cons]; omega
    cases hq : rsL a (t :: a) with
    | nil => rfl
    | cons y r => have := this y; rw [hq] at this; simp at this
  have h2 : 0 < (rsL (t :: a) a).length := by
    have : 0 < (rsL (t :: a) a).count t := by rw [rsL_count, List.count_cons]; simp
    exact List.length_pos_of_mem (List.count_pos_iff.1 this)
  unfold mulG
  rw [h1, if_neg (by omega)]
  have : overL gs (rsL (t :: a) a) [] = true := by simp [overL, h2]
  rw [if_pos this]
theorem mulG_one {gs : List Sy} {a b : T} (ha : OkG gs a) (hb : OkG gs b) : mulG gs [a] [b] = stT gs a b := by
  unfold mulG
  by_cases h : a = b
  · subst h; simp [rsL, stT_self]
  · have h' : ¬ b = a := fun e => h e.symm
    have e1 : rsL [a] [b] = [a] := by simp [rsL, h]
    have e2 : rsL [b] [a] = [b] := by simp [rsL, h']
    rw [e1, e2, if_neg (by simp)]
    have o1 : overL gs [a] [b] = decide (stT gs a b = 1) := by simp [overL]
    have o2 : overL gs [b] [a] = decide (stT gs b a = 1) := by simp [overL]
    rw [o1, o2, stT_neg gs a b]
    rcases stT_vals gs a b with q | q | q | q
    · exact absurd (stT_zero ha hb q) h
    · simp [q]
    · simp [q, ngS]
    · simp [q, ngS]
/-- the first error of some -/
def wrongG (gs : List Sy) : List T → Int
  | [] => 0
  | t :: r => if termG gs t ≠ 0 then termG gs t else wrongG gs r
theorem wrongG_ok {gs : List Sy} : ∀ {l : List T}, wrongG gs l = 0 ↔ ∀ t ∈ l, OkG gs t
  | [] => by simp [wrongG]
  | t :: r => by
    simp only [wrongG]
    by_cases h : termG gs t = 0
    · rw [if_neg (by omega), wrongG_ok]
      simp [termG_ok.1 h]
    · rw [if_pos h]
      constructor
      · intro e; exact absurd e h
      · intro e; exact absurd (termG_ok.2 (e t (List.mem_cons_self ..))) h
theorem wrongG_take {gs : List Sy} {l : List T} {k : Nat} (hk : k < l.length) (h : ∀ t ∈ l.take k, termG gs t = 0) (hn : termG gs l[k] ≠ 0) : wrongG gs l = termG gs l[k] := by
  induction l generalizing k with
  | nil => simp at hk
  | cons t r ih =>
    cases k with
    | zero => simp only [List.getElem_cons_zero] at hn ⊢; simp only [wrongG]; rw [if_pos hn]
    | succ k =>
      simp only [List.getElem_cons_succ] at hn ⊢
      have h0 := h t (by simp)
      simp only [wrongG]
      rw [if_neg (by omega)]
      exact ih (by simpa using hk) (fun x hx => h x (by simp [hx])) hn
theorem wrongG_all {gs : List Sy} {l : List T} (h : ∀ t ∈ l, termG gs t = 0) : wrongG gs l = 0 := wrongG_ok.2 fun t ht => termG_ok.1 (h t ht)
end Go.Proofs.Ytegceppoioeeaaa
/- Walks: how two terms stand to one another. -/
set_option linter.unusedVariables false
set_option linter.unusedSimpArgs false
namespace Go.Proofs.Ytegceppoioeeaaa
open Go Lg

/-- a map holds whole numbers -/
def VM (xs : Mp) (D : Int → Int) : Prop := (xs.map (·.1)).Nodup ∧ ∀ k, (mget xs k).getD (.int .i64 0) = .int .i64 (D k)
theorem VM.nil : VM [] (fun _ => 0) := ⟨by simp, fun k => rfl⟩
theorem VM.put {xs : Mp} {D : Int → Int} (h : VM xs D) (k c : Int) : VM (mput xs k (.int .i64 (D k + c))) (fun j => if k = j then D j + c else D j) := by
  refine ⟨mput_nodup h.1, fun j => ?_⟩
  rw [mget_mput]
  by_cases e : k = j
  · subst e; simp
  · rw [if_neg e, h.2 j]; simp only [if_neg e]
theorem VM.entry {xs : Mp} {D : Int → Int} (h : VM xs D) {p : Int × Value} (hp : p ∈ xs) : p.2 = .int .i64 (D p.1) := by
  have h1 := (mget_mem h.1 (k := p.1) (v := p.2)).1 hp
  have h2 := h.2 p.1
  rw [h1] at h2; exact h2
theorem VM.some {xs : Mp} {D : Int → Int} (h : VM xs D) {k : Int} (hk : D k ≠ 0) : ∃ p ∈ xs, p.1 = k ∧ p.2 = .int .i64 (D k) := by
  have h2 := h.2 k
  cases hm : mget xs k with
  | none => rw [hm] at h2; simp at h2; exact absurd h2.symm hk
  | some u => rw [hm] at h2; simp at h2; subst h2; exact ⟨(k, .int .i64 (D k)), (mget_mem h.1).2 hm, rfl, rfl⟩
theorem VM.congr {xs : Mp} {D E : Int → Int} (h : VM xs D) (e : ∀ k, D k = E k) : VM xs E := ⟨h.1, fun k => by rw [h.2 k, e k]⟩
def cv (t : T) (k : Int) : Int := if k < 0 then (cn t k : Int) else 0
def cvV (l : List (Bool × T)) (k : Int) : Int := if k < 0 then (cnV l k : Int) else 0
theorem tm_bound {s x m : Int} (hs : s = 1 ∨ s = -1) (h0 : 0 ≤ x) (hm : x ≤ m) : -m ≤ s * x ∧ s * x ≤ m := by
  rcases hs with rfl | rfl <;> omega
theorem cvV_range (l : List (Bool × T)) (k : Int) : 0 ≤ cvV l k ∧ cvV l k ≤ l.length := by
  unfold cvV cnV
  have : (l.map (·.2.head)).count k ≤ (l.map (·.2.head)).length := List.count_le_length
  rw [List.length_map] at this
  split <;> omega
theorem cvV_app (a b : List (Bool × T)) (k : Int) : cvV (a ++ b) k = cvV a k + cvV b k := by
  unfold cvV; split
  · rw [cnV_app]; simp
  · rfl
theorem cvV_T (b : Bool) (t : T) (k : Int) : cvV (visT b t) k = cv t k := by unfold cvV cv; rw [cnV_T]
abbrev LoadE (b m : Nat) (w : Int) (xs : Mp) : List Ent := [.box b 116 [.int .i64 w, .map (some m)], .map m xs]

theorem add_does {gs : List Sy} {b m : Nat} {vg : Value} {s : Int} (hs : s = 1 ∨ s = -1) : ∀ (n : Nat) (t : T), t.size ≤ n → ∀ (I : Imm) (v : Value) (w : Int) (xs : Mp) (D : Int → Int), RepG I vg gs → RepT I v t → OkG gs t → VM xs D →
    (-1000000000000000 + 1000000 * (t.size : Int) ≤ w ∧ w ≤ 1000000000000000 - 1000000 * (t.size : Int)) → (∀ k, -1000000000000000 + 1000000 * (t.size : Int) ≤ D k ∧ D k ≤ 1000000000000000 - 1000000 * (t.size : Int)) →
    Does Try.prog 90 [.pointer (some ⟨b, 0, none⟩), vg, v, .int .i64 s] I (LoadE b m w xs) (fun _ _ δ' => ∃ xs', δ' = LoadE b m (w + s * wgtG gs t) xs' ∧ VM xs' (fun k => D k + s * cv t k)) := by
  intro n
  induction n with
  | zero => intro t h; have := t.size_pos; omega
  | succ n ih =>
    intro t hn I v w xs D hg hv hO hD hw hDb
    obtain ⟨ad, c, rfl⟩ := hg.shape
    obtain ⟨_, hc, hb, hat, hok⟩ := hg.open
    obtain ⟨a0, c0, rfl, hr0⟩ := hv.shape
    obtain ⟨_, _, _, hc0, hb0, ss, hatT, hsub⟩ := hv.open
    have hsz := size_eqT t
    have hsp := t.size_pos
    have h4 := chkT_size hO.chk
    have hheads := hO.heads
    have hhd := hheads (true, t) (by rw [visT_eq]; exact List.mem_cons_self ..)
    have hwB := wB_range hO.right hhd
    simp only at hhd hwB
    have hsw := tm_bound hs (show 0 ≤ wB gs t.head by omega) hwB.2
    have htot := wgtG_range hO
    have hpart : ∀ k, k ≤ t.args.length → 0 ≤ sumV gs (visL (t.args.take k)) ∧ sumV gs (visL (t.args.take k)) ≤ 400000 := fun k hk => by
      have e : sumV gs (visL t.args) = sumV gs (visL (t.args.take k)) + sumV gs (visL (t.args.drop k)) := by rw [← sumV_app, ← visL_app, List.take_append_drop]
      have hin : ∀ x ∈ visL t.args, x.2.head < 0 ∨ (0 ≤ x.2.head ∧ x.2.head < gs.length) := fun x hx => hheads x (by rw [visT_eq]; exact List.mem_cons_of_mem _ hx)
      have e2 : visL t.args = visL (t.args.take k) ++ visL (t.args.drop k) := by rw [← visL_app, List.take_append_drop]
      have h5 := sumV_nonneg hO.right (visL (t.args.take k)) (fun x hx => hin x (by rw [e2]; exact List.mem_append_left _ hx))
      have h6 := sumV_nonneg hO.right (visL (t.args.drop k)) (fun x hx => hin x (by rw [e2]; exact List.mem_append_right _ hx))
      have h7 := wgtG_eq gs t
      omega
    refine Does.intro Try.func90 rfl Try.ntmps90 rfl fun w0 => ?_
    refine code_seq ?_
    refine code_region ?_
    refine o_box rfl rfl rfl (fun b6 => ?_)
    refine ops_nil ?_
    refine post_next ?_
    refine code_seq ?_
    refine code_seq ?_
    refine code_region ?_
    first | refine op_v (v_fieldB 0 Try.underlying25 rfl rfl fz3 rfl) rfl ?_ | refine op_v (v_fieldI 0 Try.underlying25 rfl rfl fz3 rfl (by assumption)) rfl ?_ | refine op_v (v_field Try.underlying25 rfl fz3 rfl rfl) rfl ?_
    refine op_v (v_load ty3 rfl (by repeat (first | exact Has.here | apply Has.there)) rfl) rfl ?_
    by_cases h12 : t.head < 0
    · have hleaf := hO.leaf h12
      have hw1 : wgtG gs t = 1 := by rw [wgtG_eq, hleaf]; simp [wB, h12, visL, sumV]
      have hcv : ∀ k, cv t k = if t.head = k then 1 else 0 := fun k => by
        unfold cv
        rw [cn_eq, hleaf]
        by_cases e : t.head = k
        · subst e; simp [h12, visL, cnV]
        · simp [e, visL, cnV]
      have hDk := hDb t.head
      first | refine op_v (v_cmpt rfl rfl rfl (by first | omega | (simp; done) | (simp; omega))) rfl ?_ | refine op_v (v_cmpf rfl rfl rfl (by first | omega | (simp; done) | (simp; omega))) rfl ?_ | refine op_v (v_cmp rfl rfl rfl) rfl ?_
      refine ops_nil ?_
      refine post_next ?_
      refine code_cond_t rfl ?_
      refine code_seq ?_
      refine code_region ?_
      refine op_v (v_move rfl) rfl ?_
      refine op_v (v_nilCheck rfl) rfl ?_
      first | refine op_v (v_fieldB 0 Try.underlying116 rfl rfl fz3 rfl) rfl ?_ | refine op_v (v_fieldI 0 Try.underlying116 rfl rfl fz3 rfl (by assumption)) rfl ?_ | refine op_v (v_field Try.underlying116 rfl fz3 rfl rfl) rfl ?_
      refine op_v (v_load ty3 rfl (by repeat (first | exact Has.here | apply Has.there)) rfl) rfl ?_
      refine op_v (v_move rfl) rfl ?_
      first | refine op_v (v_addb rfl rfl rfl (by omega)) rfl ?_ | refine op_v (v_add rfl rfl) rfl ?_
      refine op_v (v_nilCheck rfl) rfl ?_
      first | refine op_v (v_fieldB 0 Try.underlying116 rfl rfl fz3 rfl) rfl ?_ | refine op_v (v_fieldI 0 Try.underlying116 rfl rfl fz3 rfl (by assumption)) rfl ?_ | refine op_v (v_field Try.underlying116 rfl fz3 rfl rfl) rfl ?_
      refine o_store ty3 rfl rfl rfl rfl rfl (by repeat (first | exact Swap.here | apply Swap.there)) rfl ?_
      refine ops_nil ?_
      refine post_next ?_
      refine code_seq ?_
      refine code_draw (.fl 0 (.fl 1 (.fl 2 (.fl 3 (.fl 4 (.fl 5 (.fl 7 (.ef 6 (.fl 8 (.ef 9 .done)))))))))) (fun _ => _) mixed (by kernel_rfl) (by kernel_rfl) (fun _ => (List.Sublist.refl _)) ?_
      refine e_float rfl rfl (fun hs_ => PF.mk rfl (v_move rfl) hs_) (by repeat (first | exact Imm.le_refl _ | assumption | refine Imm.le_trans ?_ (by assumption))) (by intro x hx; first | exact hx | exact List.mem_cons_of_mem _ hx | exact List.mem_append_right _ hx | (simp only [List.mem_cons, List.not_mem_nil, or_false] at hx; repeat' (first | (subst hx; simp [cellsL]; done) | rcases hx with hx | hx)) | simp_all) ?_
      refine e_float rfl rfl (fun hs_ => PF.mk rfl (v_nilCheck rfl) hs_) (by repeat (first | exact Imm.le_refl _ | assumption | refine Imm.le_trans ?_ (by assumption))) (by intro x hx; first | exact hx | exact List.mem_cons_of_mem _ hx | exact List.mem_append_right _ hx | (simp only [List.mem_cons, List.not_mem_nil, or_false] at hx; repeat' (first | (subst hx; simp [cellsL]; done) | rcases hx with hx | hx)) | simp_all) ?_
      first | refine e_float rfl rfl (fun hs_ => PF.mk rfl (v_fieldB 1 Try.underlying116 rfl rfl fz101 rfl) hs_) (by repeat (first | exact Imm.le_refl _ | assumption | refine Imm.le_trans ?_ (by assumption))) (by intro x hx; first | exact hx | exact List.mem_cons_of_mem _ hx | exact List.mem_append_right _ hx | (simp only [List.mem_cons, List.not_mem_nil, or_false] at hx; repeat' (first | (subst hx; simp [cellsL]; done) | rcases hx with hx | hx)) | simp_all) ?_ | refine e_float rfl rfl (fun hs_ => PF.mk rfl (v_fieldI 1 Try.underlying116 rfl rfl fz101 rfl (by assumption)) hs_) (by repeat (first | exact Imm.le_refl _ | assumption | refine Imm.le_trans ?_ (by assumption))) (by intro x hx; first | exact hx | exact List.mem_cons_of_mem _ hx | exact List.mem_append_right _ hx | (simp only [List.mem_cons, List.not_mem_nil, or_false] at hx; repeat' (first | (subst hx; simp [cellsL]; done) | rcases hx with hx | hx)) | simp_all) ?_ | refine e_float rfl rfl (fun hs_ => PF.mk rfl (v_field Try.underlying116 rfl fz101 rfl rfl) hs_) (by repeat (first | exact Imm.le_refl _ | assumption | refine Imm.le_trans ?_ (by assumption))) (by intro x hx; first | exact hx | exact List.mem_cons_of_mem _ hx | exact List.mem_append_right _ hx | (simp only [List.mem_cons, List.not_mem_nil, or_false] at hx; repeat' (first | (subst hx; simp [cellsL]; done) | rcases hx with hx | hx)) | simp_all) ?_
      refine e_float rfl rfl (fun hs_ => PF.mk rfl (v_load ty101 rfl (by repeat (first | exact Has.here | apply Has.there)) rfl) hs_) (by repeat (first | exact Imm.le_refl _ | assumption | refine Imm.le_trans ?_ (by assumption))) (by intro x hx; first | exact hx | exact List.mem_cons_of_mem _ hx | exact List.mem_append_right _ hx | (simp only [List.mem_cons, List.not_mem_nil, or_false] at hx; repeat' (first | (subst hx; simp [cellsL]; done) | rcases hx with hx | hx)) | simp_all) ?_
      first | refine e_float rfl rfl (fun hs_ => PF.mk rfl (v_fieldB 0 Try.underlying25 rfl rfl fz3 rfl) hs_) (by repeat (first | exact Imm.le_refl _ | assumption | refine Imm.le_trans ?_ (by assumption))) (by intro x hx; first | exact hx | exact List.mem_cons_of_mem _ hx | exact List.mem_append_right _ hx | (simp only [List.mem_cons, List.not_mem_nil, or_false] at hx; repeat' (first | (subst hx; simp [cellsL]; done) | rcases hx with hx | hx)) | simp_all) ?_ | refine e_float rfl rfl (fun hs_ => PF.mk rfl (v_fieldI 0 Try.underlying25 rfl rfl fz3 rfl (by assumption)) hs_) (by repeat (first | exact Imm.le_refl _ | assumption | refine Imm.le_trans ?_ (by assumption))) (by intro x hx; first | exact hx | exact List.mem_cons_of_mem _ hx | exact List.mem_append_right _ hx | (simp only [List.mem_cons, List.not_mem_nil, or_false] at hx; repeat' (first | (subst hx; simp [cellsL]; done) | rcases hx with hx | hx)) | simp_all) ?_ | refine e_float rfl rfl (fun hs_ => PF.mk rfl (v_field Try.underlying25 rfl fz3 rfl rfl) hs_) (by repeat (first | exact Imm.le_refl _ | assumption | refine Imm.le_trans ?_ (by assumption))) (by intro x hx; first | exact hx | exact List.mem_cons_of_mem _ hx | exact List.mem_append_right _ hx | (simp only [List.mem_cons, List.not_mem_nil, or_false] at hx; repeat' (first | (subst hx; simp [cellsL]; done) | rcases hx with hx | hx)) | simp_all) ?_
      refine e_float rfl rfl (fun hs_ => PF.mk rfl (v_load ty3 rfl (by repeat (first | exact Has.here | apply Has.there)) rfl) hs_) (by repeat (first | exact Imm.le_refl _ | assumption | refine Imm.le_trans ?_ (by assumption))) (by intro x hx; first | exact hx | exact List.mem_cons_of_mem _ hx | exact List.mem_append_right _ hx | (simp only [List.mem_cons, List.not_mem_nil, or_false] at hx; repeat' (first | (subst hx; simp [cellsL]; done) | rcases hx with hx | hx)) | simp_all) ?_
      refine e_float rfl rfl (fun hs_ => PF.mk rfl (v_move rfl) hs_) (by repeat (first | exact Imm.le_refl _ | assumption | refine Imm.le_trans ?_ (by assumption))) (by intro x hx; first | exact hx | exact List.mem_cons_of_mem _ hx | exact List.mem_append_right _ hx | (simp only [List.mem_cons, List.not_mem_nil, or_false] at hx; repeat' (first | (subst hx; simp [cellsL]; done) | rcases hx with hx | hx)) | simp_all) ?_
      refine e_eff rfl (by intro cs b hc; cases hc) (by intro c hc; cases hc) ?_
      refine op_v (v_mlook Try.underlying101 Try.underlying3 z3 rfl rfl (by repeat (first | exact Has.here | apply Has.there)) (hD.2 t.head)) rfl ?_
      refine ops_nil ?_
      refine e_next rfl (side_all (by repeat (first | exact Imm.le_refl _ | assumption | refine Imm.le_trans ?_ (by assumption))) (fun _ => (by intro x hx; first | exact hx | exact List.mem_cons_of_mem _ hx | exact List.mem_append_right _ hx | (simp only [List.mem_cons, List.not_mem_nil, or_false] at hx; repeat' (first | (subst hx; simp [cellsL]; done) | rcases hx with hx | hx)) | simp_all))) ?_
      first | refine e_float rfl rfl (fun hs_ => PF.mk rfl (v_addb rfl rfl rfl (by omega)) hs_) (by repeat (first | exact Imm.le_refl _ | assumption | refine Imm.le_trans ?_ (by assumption))) (by intro x hx; first | exact hx | exact List.mem_cons_of_mem _ hx | exact List.mem_append_right _ hx | (simp only [List.mem_cons, List.not_mem_nil, or_false] at hx; repeat' (first | (subst hx; simp [cellsL]; done) | rcases hx with hx | hx)) | simp_all) ?_ | refine e_float rfl rfl (fun hs_ => PF.mk rfl (v_add rfl rfl) hs_) (by repeat (first | exact Imm.le_refl _ | assumption | refine Imm.le_trans ?_ (by assumption))) (by intro x hx; first | exact hx | exact List.mem_cons_of_mem _ hx | exact List.mem_append_right _ hx | (simp only [List.mem_cons, List.not_mem_nil, or_false] at hx; repeat' (first | (subst hx; simp [cellsL]; done) | rcases hx with hx | hx)) | simp_all) ?_
      refine e_eff rfl (by intro cs b hc; cases hc) (by intro c hc; cases hc) ?_
      refine o_mapUpdate Try.underlying101 Try.underlying3 rfl rfl rfl rfl (by repeat (first | exact Swap.here | apply Swap.there)) ?_
      refine ops_nil ?_
      refine e_next_ (side_nil (by kernel_rfl)) ?_
      refine e_done ?_
      refine post_next ?_
      refine code_ret ?_
      refine post_ret_then ?_
      exact post_ret (rs := []) rfl (List.Perm.refl _) .nil (List.sublist_cons_self _ _) ⟨_, by rw [hw1, Int.mul_one], (hD.put t.head s).congr (fun k => by rw [hcv k]; show (if t.head = k then D k + s else D k) = _; split <;> simp)⟩
    · have hlt : t.head.toNat < gs.length := by omega
      have hs1 := (hat _ hlt).isSome
      have hwq : wB gs t.head = (gs[t.head.toNat]'hlt).wt := by rw [wB, if_neg h12, wtG_at (by omega) (by omega)]
      rw [hwq] at hsw
      obtain ⟨q, hq⟩ : ∃ q : Int, q = s * (gs[t.head.toNat]'hlt).wt := ⟨_, rfl⟩
      rw [← hq] at hsw
      first | refine op_v (v_cmpt rfl rfl rfl (by first | omega | (simp; done) | (simp; omega))) rfl ?_ | refine op_v (v_cmpf rfl rfl rfl (by first | omega | (simp; done) | (simp; omega))) rfl ?_ | refine op_v (v_cmp rfl rfl rfl) rfl ?_
      refine ops_nil ?_
      refine post_next ?_
      refine code_cond_f rfl ?_
      refine code_skip ?_
      refine post_next ?_
      refine code_seq ?_
      refine code_draw (.fl 0 (.fl 1 (.fl 2 (.fl 3 (.fl 4 (.fl 5 (.fl 6 (.fl 7 (.fl 8 (.fl 9 (.fl 10 (.fl 11 (.fl 12 (.fl 13 (.fl 14 (.ef 15 .done)))))))))))))))) (two 13 [.box b6 25 [.int .i64 t.head, .slice a0 t.args.length c0], .box b 116 [.int .i64 w, .map (some m)], .map m xs] []) mixed (by kernel_rfl) (by kernel_rfl) (two_sub (List.Sublist.refl _) (List.nil_sublist _)) ?_
      refine e_float rfl rfl (fun hs_ => PF.mk rfl (v_move rfl) hs_) (by repeat (first | exact Imm.le_refl _ | assumption | refine Imm.le_trans ?_ (by assumption))) (by intro x hx; first | exact hx | (change x ∈ [] at hx; cases hx)) ?_
      refine e_float rfl rfl (fun hs_ => PF.mk rfl (v_nilCheck rfl) hs_) (by repeat (first | exact Imm.le_refl _ | assumption | refine Imm.le_trans ?_ (by assumption))) (by intro x hx; first | exact hx | (change x ∈ [] at hx; cases hx)) ?_
      first | refine e_float rfl rfl (fun hs_ => PF.mk rfl (v_fieldB 0 Try.underlying116 rfl rfl fz3 rfl) hs_) (by repeat (first | exact Imm.le_refl _ | assumption | refine Imm.le_trans ?_ (by assumption))) (by intro x hx; first | exact hx | (change x ∈ [] at hx; cases hx)) ?_ | refine e_float rfl rfl (fun hs_ => PF.mk rfl (v_fieldI 0 Try.underlying116 rfl rfl fz3 rfl (by assumption)) hs_) (by repeat (first | exact Imm.le_refl _ | assumption | refine Imm.le_trans ?_ (by assumption))) (by intro x hx; first | exact hx | (change x ∈ [] at hx; cases hx)) ?_ | refine e_float rfl rfl (fun hs_ => PF.mk rfl (v_field Try.underlying116 rfl fz3 rfl rfl) hs_) (by repeat (first | exact Imm.le_refl _ | assumption | refine Imm.le_trans ?_ (by assumption))) (by intro x hx; first | exact hx | (change x ∈ [] at hx; cases hx)) ?_
      refine e_float rfl rfl (fun hs_ => PF.mk rfl (v_load ty3 rfl (by repeat (first | exact Has.here | apply Has.there)) rfl) hs_) (by repeat (first | exact Imm.le_refl _ | assumption | refine Imm.le_trans ?_ (by assumption))) (by intro x hx; first | exact hx | (change x ∈ [] at hx; cases hx)) ?_
      refine e_float rfl rfl (fun hs_ => PF.mk rfl (v_move rfl) hs_) (by repeat (first | exact Imm.le_refl _ | assumption | refine Imm.le_trans ?_ (by assumption))) (by intro x hx; first | exact hx | (change x ∈ [] at hx; cases hx)) ?_
      refine e_float rfl rfl (fun hs_ => PF.mk rfl (v_move rfl) hs_) (by repeat (first | exact Imm.le_refl _ | assumption | refine Imm.le_trans ?_ (by assumption))) (by intro x hx; first | exact hx | (change x ∈ [] at hx; cases hx)) ?_
      first | refine e_float rfl rfl (fun hs_ => PF.mk rfl (v_fieldB 0 Try.underlying25 rfl rfl fz3 rfl) hs_) (by repeat (first | exact Imm.le_refl _ | assumption | refine Imm.le_trans ?_ (by assumption))) (by intro x hx; first | exact hx | (change x ∈ [] at hx; cases hx)) ?_ | refine e_float rfl rfl (fun hs_ => PF.mk rfl (v_fieldI 0 Try.underlying25 rfl rfl fz3 rfl (by assumption)) hs_) (by repeat (first | exact Imm.le_refl _ | assumption | refine Imm.le_trans ?_ (by assumption))) (by intro x hx; first | exact hx | (change x ∈ [] at hx; cases hx)) ?_ | refine e_float rfl rfl (fun hs_ => PF.mk rfl (v_field Try.underlying25 rfl fz3 rfl rfl) hs_) (by repeat (first | exact Imm.le_refl _ | assumption | refine Imm.le_trans ?_ (by assumption))) (by intro x hx; first | exact hx | (change x ∈ [] at hx; cases hx)) ?_
      refine e_float rfl rfl (fun hs_ => PF.mk rfl (v_load ty3 rfl (by repeat (first | exact Has.here | apply Has.there)) rfl) hs_) (by repeat (first | exact Imm.le_refl _ | assumption | refine Imm.le_trans ?_ (by assumption))) (by intro x hx; first | exact hx | (change x ∈ [] at hx; cases hx)) ?_
      first | refine e_float rfl rfl (fun hs_ => PF.mk rfl (v_index Try.underlying22 sz71 rfl rfl (by omega) (by assumption)) hs_) (by repeat (first | exact Imm.le_refl _ | assumption | refine Imm.le_trans ?_ (by assumption))) (by intro x hx; first | exact hx | (change x ∈ [] at hx; cases hx)) ?_ | refine e_float rfl rfl (fun hs_ => PF.mk rfl (v_indexI Try.underlying22 sz71 rfl rfl (by first | omega | (simp; done) | (simp; omega)) (by first | omega | (simp; done) | (simp; omega)) (by assumption)) hs_) (by repeat (first | exact Imm.le_refl _ | assumption | refine Imm.le_trans ?_ (by assumption))) (by intro x hx; first | exact hx | (change x ∈ [] at hx; cases hx)) ?_
      first | refine e_float rfl rfl (fun hs_ => PF.mk rfl (v_fieldB 2 Try.underlying71 rfl rfl fz3 rfl) hs_) (by repeat (first | exact Imm.le_refl _ | assumption | refine Imm.le_trans ?_ (by assumption))) (by intro x hx; first | exact hx | (change x ∈ [] at hx; cases hx)) ?_ | refine e_float rfl rfl (fun hs_ => PF.mk rfl (v_fieldI 2 Try.underlying71 rfl rfl fz3 rfl (by assumption)) hs_) (by repeat (first | exact Imm.le_refl _ | assumption | refine Imm.le_trans ?_ (by assumption))) (by intro x hx; first | exact hx | (change x ∈ [] at hx; cases hx)) ?_ | refine e_float rfl rfl (fun hs_ => PF.mk rfl (v_field Try.underlying71 rfl fz3 rfl rfl) hs_) (by repeat (first | exact Imm.le_refl _ | assumption | refine Imm.le_trans ?_ (by assumption))) (by intro x hx; first | exact hx | (change x ∈ [] at hx; cases hx)) ?_
      first | refine e_float rfl rfl (fun hs_ => PF.mk rfl (v_loadI0 ty3 ((hat _ hlt)) rfl rfl rfl) hs_) (by repeat (first | exact Imm.le_refl _ | assumption | refine Imm.le_trans ?_ (by assumption))) (by intro x hx; first | exact hx | (change x ∈ [] at hx; cases hx)) ?_ | refine e_float rfl rfl (fun hs_ => PF.mk rfl (v_loadI ty3 ((hat _ hlt)) rfl rfl rfl) hs_) (by repeat (first | exact Imm.le_refl _ | assumption | refine Imm.le_trans ?_ (by assumption))) (by intro x hx; first | exact hx | (change x ∈ [] at hx; cases hx)) ?_
      refine e_float rfl rfl (fun hs_ => PF.mk rfl (v_mulb (c := q) rfl rfl hq.symm ⟨by omega, by omega⟩) hs_) (by repeat (first | exact Imm.le_refl _ | assumption | refine Imm.le_trans ?_ (by assumption))) (by intro x hx; first | exact hx | (change x ∈ [] at hx; cases hx)) ?_
      first | refine e_float rfl rfl (fun hs_ => PF.mk rfl (v_addb rfl rfl rfl (by omega)) hs_) (by repeat (first | exact Imm.le_refl _ | assumption | refine Imm.le_trans ?_ (by assumption))) (by intro x hx; first | exact hx | (change x ∈ [] at hx; cases hx)) ?_ | refine e_float rfl rfl (fun hs_ => PF.mk rfl (v_add rfl rfl) hs_) (by repeat (first | exact Imm.le_refl _ | assumption | refine Imm.le_trans ?_ (by assumption))) (by intro x hx; first | exact hx | (change x ∈ [] at hx; cases hx)) ?_
      refine e_float rfl rfl (fun hs_ => PF.mk rfl (v_nilCheck rfl) hs_) (by repeat (first | exact Imm.le_refl _ | assumption | refine Imm.le_trans ?_ (by assumption))) (by intro x hx; first | exact hx | (change x ∈ [] at hx; cases hx)) ?_
      first | refine e_float rfl rfl (fun hs_ => PF.mk rfl (v_fieldB 0 Try.underlying116 rfl rfl fz3 rfl) hs_) (by repeat (first | exact Imm.le_refl _ | assumption | refine Imm.le_trans ?_ (by assumption))) (by intro x hx; first | exact hx | (change x ∈ [] at hx; cases hx)) ?_ | refine e_float rfl rfl (fun hs_ => PF.mk rfl (v_fieldI 0 Try.underlying116 rfl rfl fz3 rfl (by assumption)) hs_) (by repeat (first | exact Imm.le_refl _ | assumption | refine Imm.le_trans ?_ (by assumption))) (by intro x hx; first | exact hx | (change x ∈ [] at hx; cases hx)) ?_ | refine e_float rfl rfl (fun hs_ => PF.mk rfl (v_field Try.underlying116 rfl fz3 rfl rfl) hs_) (by repeat (first | exact Imm.le_refl _ | assumption | refine Imm.le_trans ?_ (by assumption))) (by intro x hx; first | exact hx | (change x ∈ [] at hx; cases hx)) ?_
      refine e_eff rfl (by intro cs b hc; cases hc) (by intro c hc; cases hc) ?_
      refine o_store ty3 rfl rfl rfl rfl rfl (by repeat (first | exact Swap.here | apply Swap.there)) rfl ?_
      refine ops_nil ?_
      refine e_next_ (side_two (by kernel_rfl) (Imm.le_refl _) (by intro x hx; cases hx)) ?_
      refine e_done ?_
      refine post_next ?_
      refine code_seq ?_
      refine code_region ?_
      first | refine op_v (v_fieldB 1 Try.underlying25 rfl rfl fz23 rfl) rfl ?_ | refine op_v (v_fieldI 1 Try.underlying25 rfl rfl fz23 rfl (by assumption)) rfl ?_ | refine op_v (v_field Try.underlying25 rfl fz23 rfl rfl) rfl ?_
      refine op_v (v_load ty23 rfl (by repeat (first | exact Has.here | apply Has.there)) rfl) rfl ?_
      refine op_v (v_len Try.underlying23 rfl) rfl ?_
      refine op_v (v_move rfl) rfl ?_
      refine ops_nil ?_
      refine post_next ?_
      refine code_block ?_
      refine code_loop (fun m' σ' I' δ' => ∃ (k : Nat) (xs' : Mp), m' = t.args.length - k ∧ k ≤ t.args.length ∧ σ' = [(0, .pointer (some ⟨b, 0, none⟩)), (1, .slice ad gs.length c), (3, .int .i64 s), (46, .slice a0 t.args.length c0), (47, .int .i64 t.args.length), (48, .int .i64 k)] ∧ I.le I' ∧ δ' = .box b6 25 [.int .i64 t.head, .slice a0 t.args.length c0] :: LoadE b m (w + s * (wB gs t.head + sumV gs (visL (t.args.take k)))) xs' ∧ VM xs' (fun j => D j + s * cvV (visL (t.args.take k)) j)) t.args.length [(0, .pointer (some ⟨b, 0, none⟩)), (1, .slice ad gs.length c), (3, .int .i64 s), (46, .slice a0 t.args.length c0), (47, .int .i64 t.args.length), (48, .int .i64 (0 : Nat))] ⟨0, xs, rfl, Nat.zero_le _, rfl, Imm.le_refl _, (by simp only [LoadE, List.take_zero, visL, hwq, sumV, List.map_nil, List.sum_nil, Int.add_zero, ← hq]; rfl), hD.congr (fun j => by simp [visL, cvV, cnV])⟩ ⟨rfl, rfl, rfl, rfl, rfl, rfl, trivial⟩ ?_
      rintro m' _ I1 _ ⟨k, xs', rfl, hk, rfl, hI1, rfl, hV⟩
      have hpk := hpart k hk
      refine code_seq ?_
      refine code_region ?_
      first | refine op_v (v_cmpt rfl rfl rfl (by first | omega | (simp; done) | (simp; omega))) rfl ?_ | refine op_v (v_cmpf rfl rfl rfl (by first | omega | (simp; done) | (simp; omega))) rfl ?_ | refine op_v (v_cmp rfl rfl rfl) rfl ?_
      refine ops_nil ?_
      refine post_next ?_
      refine code_seq ?_
      refine code_cond rfl (fun hc1 => ?_) (fun hc1 => ?_)
      · have hlt2 : k < t.args.length := by simpa using hc1
        have hs2 := (hatT k hlt2).isSome
        have hm := sizeL_mem t.args k hlt2
        have hch := (hO.child k hlt2).1
        have hb1 := tm_bound hs (show 0 ≤ wB gs t.head + sumV gs (visL (t.args.take k)) by omega) (show _ ≤ 401000 by omega)
        refine code_skip ?_
        refine post_next ?_
        refine code_seq ?_
        refine code_block ?_
        refine code_seq ?_
        refine code_region ?_
        first | refine op_v (v_index Try.underlying23 sz25 rfl rfl (by omega) (by assumption)) rfl ?_ | refine op_v (v_indexI Try.underlying23 sz25 rfl rfl (by first | omega | (simp; done) | (simp; omega)) (by first | omega | (simp; done) | (simp; omega)) (by assumption)) rfl ?_
        first | refine op_v (v_loadI0 ty25 ((hatT k hlt2).mono hI1) rfl rfl rfl) rfl ?_ | refine op_v (v_loadI ty25 ((hatT k hlt2).mono hI1) rfl rfl rfl) rfl ?_
        refine o_alloc z25 rfl rfl (fun b9 => ?_)
        refine o_store ty25 rfl rfl rfl rfl rfl (by repeat (first | exact Swap.here | apply Swap.there)) rfl ?_
        refine ops_nil ?_
        refine post_next ?_
        refine code_region ?_
        refine op_v (v_move rfl) rfl ?_
        refine op_v (v_move rfl) rfl ?_
        refine op_v (v_load ty25 rfl (by repeat (first | exact Has.here | apply Has.there)) rfl) rfl ?_
        refine op_v (v_move rfl) rfl ?_
        refine op_call pl90 rfl rfl ((ih t.args[k] (by omega) _ _ _ _ _ (hg.mono hI1) ((hsub k hlt2).mono hI1) hch hV ⟨by omega, by omega⟩ (fun j => by have h8 := hDb j; have h9 := cvV_range (visL (t.args.take k)) j; have h10 := visL_length (t.args.take k); have h11 : sizeL (t.args.take k) ≤ sizeL t.args := by { have h3 := congrArg List.length (visL_app (t.args.take k) (t.args.drop k)); rw [List.take_append_drop, List.length_append, visL_length, visL_length, visL_length] at h3; omega }; have h12 := tm_bound hs h9.1 (show _ ≤ 400 by omega); constructor <;> omega))) (List.perm_append_comm (l₁ := [_, _])) ?_
        rintro v56 I56 _ hI56 ⟨xs2, rfl, hV2⟩
        refine OpsJ.view (View.perm (List.perm_append_comm (l₂ := [_, _]))) ?_
        refine ops_nil ?_
        refine post_out ?_
        refine post_next ?_
        refine code_region ?_
        first | refine op_v (v_addb rfl rfl rfl (by omega)) rfl ?_ | refine op_v (v_add rfl rfl) rfl ?_
        refine op_v (v_move rfl) rfl ?_
        refine ops_nil ?_
        refine PostJ.view (View.drop Del.here) ?_
        refine post_again (t.args.length - (k + 1)) [(0, .pointer (some ⟨b, 0, none⟩)), (1, .slice ad gs.length c), (3, .int .i64 s), (46, .slice a0 t.args.length c0), (47, .int .i64 t.args.length), (48, .int .i64 (k + 1 : Nat))] (by omega) ⟨k + 1, xs2, rfl, hlt2, rfl, (by repeat (first | exact Imm.le_refl _ | assumption | refine Imm.le_trans ?_ (by assumption))), ?_, hV2.congr (fun j => ?_)⟩ ⟨rfl, rfl, rfl, rfl, rfl, rfl, trivial⟩
        · have e : w + s * (wB gs t.head + sumV gs (visL (t.args.take k))) + s * wgtG gs t.args[k] = w + s * (wB gs t.head + sumV gs (visL (t.args.take (k + 1)))) := by rw [visL_take t.args k hlt2, sumV_app, sumV_T, Int.add_assoc, ← Int.mul_add, Int.add_assoc]
          simp only [LoadE, ← e]; rfl
        · rw [visL_take t.args k hlt2, cvV_app, cvV_T, Int.mul_add]; omega
      · have hge : k = t.args.length := by simp at hc1; omega
        refine code_exit ?_
        refine post_exit_then ?_
        refine post_exit_then ?_
        refine post_exit ?_
        refine post_end (rs := []) rfl (List.Perm.refl _) .nil (List.sublist_cons_self _ _) ⟨xs', ?_, hV.congr (fun j => ?_)⟩
        · rw [hge, List.take_length, ← wgtG_eq]
        · rw [hge, List.take_length]
          have e1 : cv t j = cvV (visL t.args) j := by rw [← cvV_T true t, visT_eq]; unfold cvV cnV; split; (rw [List.map_cons, List.count_cons]; have e2 : (t.head == j) = false := by { simp; omega }; simp only [e2]; simp); rfl
          rw [e1]
end Go.Proofs.Ytegceppoioeeaaa
/- Walks: how two terms stand to one another. -/
set_option linter.unusedVariables false
set_option linter.unusedSimpArgs false
namespace Go.Proofs.Ytegceppoioeeaaa
open Go Lg

theorem signs_does {I : Imm} {b m : Nat} {w : Int} {xs : Mp} {D : Int → Int} (hV : VM xs D) :
    Does Try.prog 121 [.pointer (some ⟨b, 0, none⟩)] I (LoadE b m w xs) (fun v _ δ' => (∃ mo le : Bool, v = .tuple #[.bool mo, .bool le] ∧ (mo = true ↔ ∃ k, 0 < D k) ∧ (le = true ↔ ∃ k, D k < 0)) ∧ δ' = LoadE b m w xs) := by
  have hent : ∀ p ∈ xs, p.2 = .int .i64 (D p.1) := fun p hp => hV.entry hp
  have hmo : (∃ p ∈ xs, 0 < D p.1) ↔ ∃ k, 0 < D k := ⟨fun ⟨p, _, h⟩ => ⟨p.1, h⟩, fun ⟨k, h⟩ => let ⟨p, hp, h1, _⟩ := hV.some (k := k) (by omega); ⟨p, hp, by rw [h1]; exact h⟩⟩
  have hle : (∃ p ∈ xs, D p.1 < 0) ↔ ∃ k, D k < 0 := ⟨fun ⟨p, _, h⟩ => ⟨p.1, h⟩, fun ⟨k, h⟩ => let ⟨p, hp, h1, _⟩ := hV.some (k := k) (by omega); ⟨p, hp, by rw [h1]; exact h⟩⟩
  refine Does.intro Try.func121 rfl Try.ntmps121 rfl fun w0 => ?_
  refine code_seq ?_
  refine code_region ?_
  refine op_v (v_assign rfl) rfl ?_
  refine op_v (v_assign rfl) rfl ?_
  refine ops_nil ?_
  refine post_next ?_
  refine code_seq ?_
  refine code_region ?_
  refine op_v (v_assign rfl) rfl ?_
  refine op_v (v_assign rfl) rfl ?_
  refine ops_nil ?_
  refine post_next ?_
  refine code_seq ?_
  refine code_seq ?_
  refine code_region ?_
  refine op_v (v_move rfl) rfl ?_
  refine op_v (v_nilCheck rfl) rfl ?_
  first | refine op_v (v_fieldB 1 Try.underlying116 rfl rfl fz101 rfl) rfl ?_ | refine op_v (v_fieldI 1 Try.underlying116 rfl rfl fz101 rfl (by assumption)) rfl ?_ | refine op_v (v_field Try.underlying116 rfl fz101 rfl rfl) rfl ?_
  refine op_v (v_load ty101 rfl (by repeat (first | exact Has.here | apply Has.there)) rfl) rfl ?_
  refine OpsJ.openMap (δ' := fun es ck => [.box b 116 [.int .i64 w, .map (some m)], .obj m (.map es ck)]) (fun _ _ => Swap.there Swap.here) ?_
  intro es ck hmi
  refine o_range Try.underlying101 rfl (Has.there Has.here) hmi rfl (fun r12 hL0 => ?_)
  refine ops_nil ?_
  refine post_next ?_
  refine code_block ?_
  refine code_loop (fun m' σ' I' δ' => ∃ (mo le : Bool) (left : Mp) (seen : Array Nat), m' = left.length ∧ σ' = [(12, .pointer (some ⟨r12, 0, none⟩)), (4, .bool mo), (5, .bool le)] ∧ I' = I ∧ δ' = [.obj r12 (.mapIter (some m) ck seen ck), .box b 116 [.int .i64 w, .map (some m)], .obj m (.map es ck)] ∧ LeftM es ck ck seen ck xs left ∧ (∀ p ∈ left, p ∈ xs) ∧ ((mo = true ∨ ∃ p ∈ left, 0 < D p.1) ↔ ∃ p ∈ xs, 0 < D p.1) ∧ ((le = true ∨ ∃ p ∈ left, D p.1 < 0) ↔ ∃ p ∈ xs, D p.1 < 0)) xs.length [(12, .pointer (some ⟨r12, 0, none⟩)), (4, .bool false), (5, .bool false)] ⟨false, false, xs, _, rfl, rfl, rfl, rfl, hL0, fun _ h => h, by simp, by simp⟩ ⟨rfl, rfl, rfl, trivial⟩ ?_
  rintro m' _ _ _ ⟨mo, le, left, seen, rfl, rfl, rfl, rfl, hL, hin, hm1, hl1⟩
  refine code_seq ?_
  refine code_region ?_
  by_cases hls : left = []
  · refine o_mnext0 hls hL rfl (Has.there (Has.there Has.here)) (fun _ => Swap.here) rfl ?_
    refine op_v (v_extract rfl rfl) rfl ?_
    refine ops_nil ?_
    refine post_next ?_
    refine code_seq ?_
    refine code_cond_f rfl ?_
    refine code_exit ?_
    refine post_exit_then ?_
    refine post_exit_then ?_
    refine post_exit ?_
    refine post_next ?_
    refine code_seq ?_
    refine code_region ?_
    subst hls
    refine OpsJ.view ((View.drop Del.here).trans (View.closeMap hmi (Swap.there Swap.here))) ?_
    refine op_v (v_move rfl) rfl ?_
    refine op_v (v_move rfl) rfl ?_
    refine op_v (v_assign rfl) rfl ?_
    refine op_v (v_assign rfl) rfl ?_
    refine ops_nil ?_
    refine post_next ?_
    refine code_ret ?_
    refine post_ret (rs := [.tmp 2, .tmp 3]) rfl (List.Perm.refl _) (.cons (.tmp rfl) (.cons (.tmp rfl) .nil)) (List.Sublist.refl _) ?_
    exact ⟨⟨mo, le, rfl, by rw [← hmo, ← hm1]; simp, by rw [← hle, ← hl1]; simp⟩, rfl⟩
  · refine o_mnext1 hls hL rfl (Has.there (Has.there Has.here)) (fun _ => Swap.here) rfl (fun l k u q seen' hl hL' hcur => ?_)
    subst hl
    have hu := hent (k, u) (hin _ (by simp))
    simp only at hu
    subst hu
    have hin' : ∀ p ∈ l ++ q, p ∈ xs := fun p hp => hin p (by rcases List.mem_append.1 hp with h | h; exact List.mem_append_left _ h; exact List.mem_append_right _ (List.mem_cons_of_mem _ h))
    have hmeas : (l ++ q).length < (l ++ (k, Value.int .i64 (D k)) :: q).length := by simp
    have hm2 : ((mo || decide (0 < D k)) = true ∨ ∃ p ∈ l ++ q, 0 < D p.1) ↔ ∃ p ∈ xs, 0 < D p.1 := by
      rw [← hm1]
      simp only [List.mem_append, List.mem_cons, Bool.or_eq_true, decide_eq_true_eq]
      constructor
      · rintro ((h | h) | ⟨p, h | h, h2⟩)
        · exact .inl h
        · exact .inr ⟨_, .inr (.inl rfl), h⟩
        · exact .inr ⟨p, .inl h, h2⟩
        · exact .inr ⟨p, .inr (.inr h), h2⟩
      · rintro (h | ⟨p, h | rfl | h, h2⟩)
        · exact .inl (.inl h)
        · exact .inr ⟨p, .inl h, h2⟩
        · exact .inl (.inr h2)
        · exact .inr ⟨p, .inr h, h2⟩
    have hl2 : ((le || decide (D k < 0)) = true ∨ ∃ p ∈ l ++ q, D p.1 < 0) ↔ ∃ p ∈ xs, D p.1 < 0 := by
      rw [← hl1]
      simp only [List.mem_append, List.mem_cons, Bool.or_eq_true, decide_eq_true_eq]
      constructor
      · rintro ((h | h) | ⟨p, h | h, h2⟩)
        · exact .inl h
        · exact .inr ⟨_, .inr (.inl rfl), h⟩
        · exact .inr ⟨p, .inl h, h2⟩
        · exact .inr ⟨p, .inr (.inr h), h2⟩
      · rintro (h | ⟨p, h | rfl | h, h2⟩)
        · exact .inl (.inl h)
        · exact .inr ⟨p, .inl h, h2⟩
        · exact .inl (.inr h2)
        · exact .inr ⟨p, .inr h, h2⟩
    refine op_v (v_extract rfl rfl) rfl ?_
    refine ops_nil ?_
    refine post_next ?_
    refine code_seq ?_
    refine code_cond_t rfl ?_
    refine code_skip ?_
    refine post_next ?_
    refine code_block ?_
    refine code_seq ?_
    refine code_region ?_
    refine op_v (v_entry hL' rfl hcur (Has.there (Has.there Has.here)) Has.here) rfl ?_
    refine op_v (v_extract rfl rfl) rfl ?_
    refine op_v (v_assign rfl) rfl ?_
    refine ops_nil ?_
    refine post_next ?_
    refine code_region ?_
    refine op_v (v_move rfl) rfl ?_
    by_cases hmo1 : mo = true
    · subst hmo1
      refine op_v (v_move rfl) rfl ?_
      first
        | (refine op_want rfl rfl ?_
           refine op_v (v_move rfl) rfl ?_)
        | (refine op_skip rfl rfl (by simp [undef]) rfl ?_)
      first
        | (refine op_want rfl rfl ?_
           refine op_v (v_cmp (z := decide (0 < D k)) rfl rfl rfl) rfl ?_)
        | (refine op_skip rfl rfl (by simp [undef]) rfl ?_)
      first | refine op_v (v_pickt rfl rfl) rfl ?_ | refine op_v (v_pickf rfl rfl) rfl ?_ | refine op_v (v_pickb rfl rfl rfl) rfl ?_
      refine op_v (v_move rfl) rfl ?_
      by_cases hle1 : le = true
      · subst hle1
        refine op_v (v_move rfl) rfl ?_
        first
          | (refine op_want rfl rfl ?_
             refine op_v (v_move rfl) rfl ?_)
          | (refine op_skip rfl rfl (by simp [undef]) rfl ?_)
        first
          | (refine op_want rfl rfl ?_
             refine op_v (v_cmp (z := decide (D k < 0)) rfl rfl rfl) rfl ?_)
          | (refine op_skip rfl rfl (by simp [undef]) rfl ?_)
        first | refine op_v (v_pickt rfl rfl) rfl ?_ | refine op_v (v_pickf rfl rfl) rfl ?_ | refine op_v (v_pickb rfl rfl rfl) rfl ?_
        refine op_v (v_assign rfl) rfl ?_
        refine op_v (v_assign rfl) rfl ?_
        refine ops_nil ?_
        refine post_out ?_
        refine post_again _ [(12, .pointer (some ⟨r12, 0, none⟩)), (4, .bool true), (5, .bool true)] hmeas ⟨_, _, l ++ q, seen', rfl, rfl, rfl, rfl, hL', hin', by simpa using hm2, by simpa using hl2⟩ ⟨rfl, rfl, rfl, trivial⟩
      · have hle2 : le = false := by simpa using hle1
        subst hle2
        refine op_v (v_move rfl) rfl ?_
        first
          | (refine op_want rfl rfl ?_
             refine op_v (v_move rfl) rfl ?_)
          | (refine op_skip rfl rfl (by simp [undef]) rfl ?_)
        first
          | (refine op_want rfl rfl ?_
             refine op_v (v_cmp (z := decide (D k < 0)) rfl rfl rfl) rfl ?_)
          | (refine op_skip rfl rfl (by simp [undef]) rfl ?_)
        first | refine op_v (v_pickt rfl rfl) rfl ?_ | refine op_v (v_pickf rfl rfl) rfl ?_ | refine op_v (v_pickb rfl rfl rfl) rfl ?_
        refine op_v (v_assign rfl) rfl ?_
        refine op_v (v_assign rfl) rfl ?_
        refine ops_nil ?_
        refine post_out ?_
        refine post_again _ [(12, .pointer (some ⟨r12, 0, none⟩)), (4, .bool true), (5, .bool (decide (D k < 0)))] hmeas ⟨_, _, l ++ q, seen', rfl, rfl, rfl, rfl, hL', hin', by simpa using hm2, by simpa using hl2⟩ ⟨rfl, rfl, rfl, trivial⟩
    · have hmo2 : mo = false := by simpa using hmo1
      subst hmo2
      refine op_v (v_move rfl) rfl ?_
      first
        | (refine op_want rfl rfl ?_
           refine op_v (v_move rfl) rfl ?_)
        | (refine op_skip rfl rfl (by simp [undef]) rfl ?_)
      first
        | (refine op_want rfl rfl ?_
           refine op_v (v_cmp (z := decide (0 < D k)) rfl rfl rfl) rfl ?_)
        | (refine op_skip rfl rfl (by simp [undef]) rfl ?_)
      first | refine op_v (v_pickt rfl rfl) rfl ?_ | refine op_v (v_pickf rfl rfl) rfl ?_ | refine op_v (v_pickb rfl rfl rfl) rfl ?_
      refine op_v (v_move rfl) rfl ?_
      skip
      refine op_v (v_move rfl) rfl ?_
      by_cases hle3 : le = true
      · subst hle3
        first
          | (refine op_want rfl rfl ?_
             refine op_v (v_move rfl) rfl ?_)
          | (refine op_skip rfl rfl (by simp [undef]) rfl ?_)
        first
          | (refine op_want rfl rfl ?_
             refine op_v (v_cmp (z := decide (D k < 0)) rfl rfl rfl) rfl ?_)
          | (refine op_skip rfl rfl (by simp [undef]) rfl ?_)
        first | refine op_v (v_pickt rfl rfl) rfl ?_ | refine op_v (v_pickf rfl rfl) rfl ?_ | refine op_v (v_pickb rfl rfl rfl) rfl ?_
        refine op_v (v_assign rfl) rfl ?_
        refine op_v (v_assign rfl) rfl ?_
        refine ops_nil ?_
        refine post_out ?_
        refine post_again _ [(12, .pointer (some ⟨r12, 0, none⟩)), (4, .bool (decide (0 < D k))), (5, .bool true)] hmeas ⟨_, _, l ++ q, seen', rfl, rfl, rfl, rfl, hL', hin', by simpa using hm2, by simpa using hl2⟩ ⟨rfl, rfl, rfl, trivial⟩
      · have hle2 : le = false := by simpa using hle3
        subst hle2
        first
          | (refine op_want rfl rfl ?_
             refine op_v (v_move rfl) rfl ?_)
          | (refine op_skip rfl rfl (by simp [undef]) rfl ?_)
        first
          | (refine op_want rfl rfl ?_
             refine op_v (v_cmp (z := decide (D k < 0)) rfl rfl rfl) rfl ?_)
          | (refine op_skip rfl rfl (by simp [undef]) rfl ?_)
        first | refine op_v (v_pickt rfl rfl) rfl ?_ | refine op_v (v_pickf rfl rfl) rfl ?_ | refine op_v (v_pickb rfl rfl rfl) rfl ?_
        refine op_v (v_assign rfl) rfl ?_
        refine op_v (v_assign rfl) rfl ?_
        refine ops_nil ?_
        refine post_out ?_
        refine post_again _ [(12, .pointer (some ⟨r12, 0, none⟩)), (4, .bool (decide (0 < D k))), (5, .bool (decide (D k < 0)))] hmeas ⟨_, _, l ++ q, seen', rfl, rfl, rfl, rfl, hL', hin', by simpa using hm2, by simpa using hl2⟩ ⟨rfl, rfl, rfl, trivial⟩
def DM (a b : T) (k : Int) : Int := if k < 0 then (cn a k : Int) - (cn b k : Int) else 0
theorem DM_pos (a b : T) : (∃ k, 0 < DM a b k) ↔ vleB b a = false := by
  rw [← Bool.not_eq_true, vleB_iff]
  unfold DM
  constructor
  · rintro ⟨k, h⟩ hv
    by_cases hk : k < 0
    · rw [if_pos hk] at h; have := hv k hk; omega
    · rw [if_neg hk] at h; omega
  · intro h
    rcases Classical.em (∃ k, 0 < DM a b k) with h1 | h1
    · exact h1
    · exfalso
      apply h
      intro k hk
      have : ¬ 0 < DM a b k := fun h2 => h1 ⟨k, h2⟩
      unfold DM at this
      rw [if_pos hk] at this; omega
theorem DM_neg (a b : T) : (∃ k, DM a b k < 0) ↔ vleB a b = false := by
  rw [← DM_pos b a]
  unfold DM
  constructor <;> (rintro ⟨k, h⟩; refine ⟨k, ?_⟩; split at h <;> rename_i hk <;> first | rw [if_pos hk]; omega | omega)
theorem side_does {I : Imm} {b m : Nat} {w n : Int} {xs : Mp} {s t : T} (hV : VM xs (DM s t)) :
    Does Try.prog 91 [.pointer (some ⟨b, 0, none⟩), .int .i64 n] I (LoadE b m w xs) (fun v _ δ' => v = .int .i64 (sideG s t n) ∧ δ' = LoadE b m w xs) := by
  refine Does.intro Try.func91 rfl Try.ntmps91 rfl fun w0 => ?_
  refine code_seq ?_
  refine code_region ?_
  refine op_v (v_assign rfl) rfl ?_
  refine ops_nil ?_
  refine post_next ?_
  refine code_seq ?_
  refine code_region ?_
  refine op_v (v_move rfl) rfl ?_
  refine op_call pl121 rfl rfl ((signs_does hV)) Parts.all ?_
  rintro v9 I9 _ hI9 ⟨⟨mo, le, rfl, hmo, hle⟩, rfl⟩
  rw [List.append_nil]
  rw [DM_pos] at hmo
  rw [DM_neg] at hle
  refine op_v (v_move rfl) rfl ?_
  refine op_v (v_extract rfl rfl) rfl ?_
  refine op_v (v_extract rfl rfl) rfl ?_
  refine op_v (v_assign rfl) rfl ?_
  refine op_v (v_assign rfl) rfl ?_
  refine ops_nil ?_
  refine post_next ?_
  refine code_seq ?_
  refine code_block ?_
  refine code_seq ?_
  refine code_region ?_
  refine op_v (v_move rfl) rfl ?_
  by_cases h14 : 0 < n
  · first | refine op_v (v_cmpt rfl rfl rfl (by first | omega | (simp; done) | (simp; omega))) rfl ?_ | refine op_v (v_cmpf rfl rfl rfl (by first | omega | (simp; done) | (simp; omega))) rfl ?_ | refine op_v (v_cmp rfl rfl rfl) rfl ?_
    refine op_v (v_move rfl) rfl ?_
    first
      | (refine op_want rfl rfl ?_
         refine op_v (v_move rfl) rfl ?_)
      | (refine op_skip rfl rfl (by simp [undef]) rfl ?_)
    by_cases h17 : le = true
    · subst h17
      first
        | (refine op_want rfl rfl ?_
           refine op_v (v_not rfl) rfl ?_)
        | (refine op_skip rfl rfl (by simp [undef]) rfl ?_)
      first | refine op_v (v_pickt rfl rfl) rfl ?_ | refine op_v (v_pickf rfl rfl) rfl ?_ | refine op_v (v_pickb rfl rfl rfl) rfl ?_
      refine op_v (v_assign rfl) rfl ?_
      refine ops_nil ?_
      refine post_next ?_
      refine code_cond_f rfl ?_
      refine code_seq ?_
      refine code_region ?_
      refine op_v (v_move rfl) rfl ?_
      first | refine op_v (v_cmpt rfl rfl rfl (by first | omega | (simp; done) | (simp; omega))) rfl ?_ | refine op_v (v_cmpf rfl rfl rfl (by first | omega | (simp; done) | (simp; omega))) rfl ?_ | refine op_v (v_cmp rfl rfl rfl) rfl ?_
      refine op_v (v_move rfl) rfl ?_
      first
        | (refine op_want rfl rfl ?_
           refine op_v (v_move rfl) rfl ?_)
        | (refine op_skip rfl rfl (by simp [undef]) rfl ?_)
      first
        | (refine op_want rfl rfl ?_
           refine op_v (v_not rfl) rfl ?_)
        | (refine op_skip rfl rfl (by simp [undef]) rfl ?_)
      first | refine op_v (v_pickt rfl rfl) rfl ?_ | refine op_v (v_pickf rfl rfl) rfl ?_ | refine op_v (v_pickb rfl rfl rfl) rfl ?_
      refine op_v (v_assign rfl) rfl ?_
      refine ops_nil ?_
      refine post_next ?_
      refine code_cond_f rfl ?_
      refine code_skip ?_
      refine post_out ?_
      refine post_next ?_
      refine code_seq ?_
      refine code_region ?_
      refine op_v (v_assign rfl) rfl ?_
      refine ops_nil ?_
      refine post_next ?_
      refine code_ret ?_
      refine post_ret (rs := [.tmp 4]) rfl (List.Perm.refl _) (.cons (.tmp rfl) .nil) (List.Sublist.refl _) ?_
      have hv : vleB s t = false := hle.1 rfl
      exact ⟨by simp [outV, sideG, hv]; omega, rfl⟩
    · have h17' : le = false := by simpa using h17
      subst h17'
      first
        | (refine op_want rfl rfl ?_
           refine op_v (v_not rfl) rfl ?_)
        | (refine op_skip rfl rfl (by simp [undef]) rfl ?_)
      first | refine op_v (v_pickt rfl rfl) rfl ?_ | refine op_v (v_pickf rfl rfl) rfl ?_ | refine op_v (v_pickb rfl rfl rfl) rfl ?_
      refine op_v (v_assign rfl) rfl ?_
      refine ops_nil ?_
      refine post_next ?_
      refine code_cond_t rfl ?_
      refine code_seq ?_
      refine code_region ?_
      refine op_v (v_assign rfl) rfl ?_
      refine ops_nil ?_
      refine post_next ?_
      refine code_ret ?_
      refine post_ret_block ?_
      refine post_ret_then ?_
      refine post_ret (rs := [.tmp 4]) rfl (List.Perm.refl _) (.cons (.tmp rfl) .nil) (List.Sublist.refl _) ?_
      have hv : vleB s t = true := by { cases h : vleB s t; exact absurd (hle.2 h) (by simp); rfl }
      exact ⟨by simp [outV, sideG, h14, hv], rfl⟩
  · first | refine op_v (v_cmpt rfl rfl rfl (by first | omega | (simp; done) | (simp; omega))) rfl ?_ | refine op_v (v_cmpf rfl rfl rfl (by first | omega | (simp; done) | (simp; omega))) rfl ?_ | refine op_v (v_cmp rfl rfl rfl) rfl ?_
    refine op_v (v_move rfl) rfl ?_
    first
      | (refine op_want rfl rfl ?_
         refine op_v (v_move rfl) rfl ?_)
      | (refine op_skip rfl rfl (by simp [undef]) rfl ?_)
    first
      | (refine op_want rfl rfl ?_
         refine op_v (v_not rfl) rfl ?_)
      | (refine op_skip rfl rfl (by simp [undef]) rfl ?_)
    first | refine op_v (v_pickt rfl rfl) rfl ?_ | refine op_v (v_pickf rfl rfl) rfl ?_ | refine op_v (v_pickb rfl rfl rfl) rfl ?_
    refine op_v (v_assign rfl) rfl ?_
    refine ops_nil ?_
    refine post_next ?_
    refine code_cond_f rfl ?_
    refine code_seq ?_
    refine code_region ?_
    refine op_v (v_move rfl) rfl ?_
    by_cases h21 : n < 0
    · first | refine op_v (v_cmpt rfl rfl rfl (by first | omega | (simp; done) | (simp; omega))) rfl ?_ | refine op_v (v_cmpf rfl rfl rfl (by first | omega | (simp; done) | (simp; omega))) rfl ?_ | refine op_v (v_cmp rfl rfl rfl) rfl ?_
      refine op_v (v_move rfl) rfl ?_
      first
        | (refine op_want rfl rfl ?_
           refine op_v (v_move rfl) rfl ?_)
        | (refine op_skip rfl rfl (by simp [undef]) rfl ?_)
      by_cases h24 : mo = true
      · subst h24
        first
          | (refine op_want rfl rfl ?_
             refine op_v (v_not rfl) rfl ?_)
          | (refine op_skip rfl rfl (by simp [undef]) rfl ?_)
        first | refine op_v (v_pickt rfl rfl) rfl ?_ | refine op_v (v_pickf rfl rfl) rfl ?_ | refine op_v (v_pickb rfl rfl rfl) rfl ?_
        refine op_v (v_assign rfl) rfl ?_
        refine ops_nil ?_
        refine post_next ?_
        refine code_cond_f rfl ?_
        refine code_skip ?_
        refine post_out ?_
        refine post_next ?_
        refine code_seq ?_
        refine code_region ?_
        refine op_v (v_assign rfl) rfl ?_
        refine ops_nil ?_
        refine post_next ?_
        refine code_ret ?_
        refine post_ret (rs := [.tmp 4]) rfl (List.Perm.refl _) (.cons (.tmp rfl) .nil) (List.Sublist.refl _) ?_
        have hv : vleB t s = false := hmo.1 rfl
        exact ⟨by simp [outV, sideG, hv, h14], rfl⟩
      · have h24' : mo = false := by simpa using h24
        subst h24'
        first
          | (refine op_want rfl rfl ?_
             refine op_v (v_not rfl) rfl ?_)
          | (refine op_skip rfl rfl (by simp [undef]) rfl ?_)
        first | refine op_v (v_pickt rfl rfl) rfl ?_ | refine op_v (v_pickf rfl rfl) rfl ?_ | refine op_v (v_pickb rfl rfl rfl) rfl ?_
        refine op_v (v_assign rfl) rfl ?_
        refine ops_nil ?_
        refine post_next ?_
        refine code_cond_t rfl ?_
        refine code_seq ?_
        refine code_region ?_
        refine op_v (v_assign rfl) rfl ?_
        refine ops_nil ?_
        refine post_next ?_
        refine code_ret ?_
        refine post_ret_block ?_
        refine post_ret_then ?_
        refine post_ret (rs := [.tmp 4]) rfl (List.Perm.refl _) (.cons (.tmp rfl) .nil) (List.Sublist.refl _) ?_
        have hv : vleB t s = true := by { cases h : vleB t s; exact absurd (hmo.2 h) (by simp); rfl }
        exact ⟨by simp [outV, sideG, hv, h14, h21], rfl⟩
    · first | refine op_v (v_cmpt rfl rfl rfl (by first | omega | (simp; done) | (simp; omega))) rfl ?_ | refine op_v (v_cmpf rfl rfl rfl (by first | omega | (simp; done) | (simp; omega))) rfl ?_ | refine op_v (v_cmp rfl rfl rfl) rfl ?_
      refine op_v (v_move rfl) rfl ?_
      first
        | (refine op_want rfl rfl ?_
           refine op_v (v_move rfl) rfl ?_)
        | (refine op_skip rfl rfl (by simp [undef]) rfl ?_)
      first
        | (refine op_want rfl rfl ?_
           refine op_v (v_not rfl) rfl ?_)
        | (refine op_skip rfl rfl (by simp [undef]) rfl ?_)
      first | refine op_v (v_pickt rfl rfl) rfl ?_ | refine op_v (v_pickf rfl rfl) rfl ?_ | refine op_v (v_pickb rfl rfl rfl) rfl ?_
      refine op_v (v_assign rfl) rfl ?_
      refine ops_nil ?_
      refine post_next ?_
      refine code_cond_f rfl ?_
      refine code_skip ?_
      refine post_out ?_
      refine post_next ?_
      refine code_seq ?_
      refine code_region ?_
      refine op_v (v_assign rfl) rfl ?_
      refine ops_nil ?_
      refine post_next ?_
      refine code_ret ?_
      refine post_ret (rs := [.tmp 4]) rfl (List.Perm.refl _) (.cons (.tmp rfl) .nil) (List.Sublist.refl _) ?_
      exact ⟨by simp [outV, sideG, h14, h21], rfl⟩
theorem wrong_does {I : Imm} {vg v : Value} {gs : List Sy} {ts : List T} (hg : RepG I vg gs) (hv : RepS I v ts) (hbig : ∀ t ∈ ts, t.size ≤ 1000000000) :
    Does Try.prog 57 [vg, v] I [] (fun v _ δ' => v = .int .i64 (wrongG gs ts) ∧ δ' = []) := by
  obtain ⟨ad, c, ss, ts, hc, hb, hat, hr, hsub0⟩ := hv
  have hsub : ∀ i (h : i < ts.length), RepT I (.agg #[.int .i64 ts[i].head, .slice (ss i).1 ts[i].args.length (ss i).2]) ts[i] := fun i hi => RepT.mk _ _ (hr i hi) (hsub0 i hi)
  refine Does.intro Try.func57 rfl Try.ntmps57 rfl fun w0 => ?_
  refine code_seq ?_
  refine code_region ?_
  refine op_v (v_assign rfl) rfl ?_
  refine ops_nil ?_
  refine post_next ?_
  refine code_seq ?_
  refine code_seq ?_
  refine code_region ?_
  refine op_v (v_move rfl) rfl ?_
  refine op_v (v_len Try.underlying23 rfl) rfl ?_
  refine op_v (v_move rfl) rfl ?_
  refine ops_nil ?_
  refine post_next ?_
  refine code_block ?_
  refine code_loop (fun m σ' I' δ' => ∃ k : Nat, m = ts.length - k ∧ k ≤ ts.length ∧ σ' = [(0, vg), (8, .slice ad ts.length c), (9, .int .i64 ts.length), (10, .int .i64 k)] ∧ I.le I' ∧ δ' = [] ∧ ∀ t ∈ ts.take k, termG gs t = 0) ts.length [(0, vg), (8, .slice ad ts.length c), (9, .int .i64 ts.length), (10, .int .i64 (0 : Nat))] ⟨0, rfl, Nat.zero_le _, rfl, Imm.le_refl _, rfl, by simp⟩ ⟨rfl, rfl, rfl, rfl, trivial⟩ ?_
  rintro m _ I0 _ ⟨k, rfl, hk, rfl, hI0, rfl, hp⟩
  refine code_seq ?_
  refine code_region ?_
  first | refine op_v (v_cmpt rfl rfl rfl (by first | omega | (simp; done) | (simp; omega))) rfl ?_ | refine op_v (v_cmpf rfl rfl rfl (by first | omega | (simp; done) | (simp; omega))) rfl ?_ | refine op_v (v_cmp rfl rfl rfl) rfl ?_
  refine ops_nil ?_
  refine post_next ?_
  refine code_seq ?_
  refine code_cond rfl (fun hc0 => ?_) (fun hc0 => ?_)
  · have hlt : k < ts.length := by simpa using hc0
    have hs1 := (hat k hlt).isSome
    refine code_skip ?_
    refine post_next ?_
    refine code_seq ?_
    refine code_block ?_
    refine code_seq ?_
    refine code_region ?_
    first | refine op_v (v_index Try.underlying23 sz25 rfl rfl (by omega) (by assumption)) rfl ?_ | refine op_v (v_indexI Try.underlying23 sz25 rfl rfl (by first | omega | (simp; done) | (simp; omega)) (by first | omega | (simp; done) | (simp; omega)) (by assumption)) rfl ?_
    first | refine op_v (v_loadI0 ty25 ((hat k hlt).mono hI0) rfl rfl rfl) rfl ?_ | refine op_v (v_loadI ty25 ((hat k hlt).mono hI0) rfl rfl rfl) rfl ?_
    refine o_alloc z25 rfl rfl (fun b6 => ?_)
    refine o_store ty25 rfl rfl rfl rfl rfl (by repeat (first | exact Swap.here | apply Swap.there)) rfl ?_
    refine ops_nil ?_
    refine post_next ?_
    refine code_seq ?_
    refine code_region ?_
    refine op_v (v_move rfl) rfl ?_
    refine op_v (v_load ty25 rfl (by repeat (first | exact Has.here | apply Has.there)) rfl) rfl ?_
    refine op_call pl78 rfl rfl ((GTerm_does (hg.mono hI0) ((hsub k hlt).mono hI0) (hbig _ (List.getElem_mem _)))) Parts.none ?_
    rintro v16 I16 _ hI16 ⟨rfl, rfl⟩
    refine op_v (v_assign rfl) rfl ?_
    refine ops_nil ?_
    refine post_next ?_
    refine code_seq ?_
    refine code_region ?_
    refine op_v (v_move rfl) rfl ?_
    by_cases h18 : termG gs ts[k] ≠ 0
    · first | refine op_v (v_cmpt rfl rfl rfl (by first | omega | (simp; done) | (simp; omega))) rfl ?_ | refine op_v (v_cmpf rfl rfl rfl (by first | omega | (simp; done) | (simp; omega))) rfl ?_ | refine op_v (v_cmp rfl rfl rfl) rfl ?_
      refine ops_nil ?_
      refine post_next ?_
      refine code_cond_t rfl ?_
      refine code_seq ?_
      refine code_region ?_
      refine op_v (v_move rfl) rfl ?_
      refine op_v (v_assign rfl) rfl ?_
      refine ops_nil ?_
      refine post_next ?_
      refine code_ret ?_
      refine post_ret_block ?_
      refine post_ret_then ?_
      refine post_ret_then ?_
      refine post_ret_block ?_
      refine post_ret_then ?_
      refine post_ret (rs := [.tmp 4]) rfl (List.Perm.refl _) (.cons (.tmp rfl) .nil) (List.nil_sublist _) ?_
      exact ⟨by rw [wrongG_take hlt hp h18]; rfl, rfl⟩
    · first | refine op_v (v_cmpt rfl rfl rfl (by first | omega | (simp; done) | (simp; omega))) rfl ?_ | refine op_v (v_cmpf rfl rfl rfl (by first | omega | (simp; done) | (simp; omega))) rfl ?_ | refine op_v (v_cmp rfl rfl rfl) rfl ?_
      refine ops_nil ?_
      refine post_next ?_
      refine code_cond_f rfl ?_
      refine code_skip ?_
      refine post_out ?_
      refine post_next ?_
      refine code_region ?_
      first | refine op_v (v_addb rfl rfl rfl (by omega)) rfl ?_ | refine op_v (v_add rfl rfl) rfl ?_
      refine op_v (v_move rfl) rfl ?_
      refine ops_nil ?_
      refine PostJ.view View.nil ?_
      refine post_again (ts.length - (k + 1)) [(0, vg), (8, .slice ad ts.length c), (9, .int .i64 ts.length), (10, .int .i64 (k + 1 : Nat))] (by omega) ⟨k + 1, rfl, hlt, rfl, (by repeat (first | exact Imm.le_refl _ | assumption | refine Imm.le_trans ?_ (by assumption))), rfl, fun t ht => ?_⟩ ⟨rfl, rfl, rfl, rfl, trivial⟩
      rw [List.take_succ_eq_append_getElem hlt, List.mem_append, List.mem_singleton] at ht
      rcases ht with ht | rfl
      · exact hp t ht
      · omega
  · have hge : k = ts.length := by simp at hc0; omega
    rw [hge, List.take_length] at hp
    refine code_exit ?_
    refine post_exit_then ?_
    refine post_exit_then ?_
    refine post_exit ?_
    refine post_next ?_
    refine code_seq ?_
    refine code_region ?_
    refine op_v (v_assign rfl) rfl ?_
    refine ops_nil ?_
    refine post_next ?_
    refine code_ret ?_
    refine post_ret (rs := [.tmp 4]) rfl (List.Perm.refl _) (.cons (.tmp rfl) .nil) (List.nil_sublist _) ?_
    exact ⟨by rw [wrongG_all hp]; rfl, rfl⟩
end Go.Proofs.Ytegceppoioeeaaa
/- Walks: how two terms stand to one another. -/
set_option linter.unusedVariables false
set_option linter.unusedSimpArgs false
namespace Go.Proofs.Ytegceppoioeeaaa
open Go Lg

theorem stL_drop (gs : List Sy) : ∀ (l m : List T) (k : Nat) (h : k < l.length) (h' : k < m.length), stL gs (l.drop k) (m.drop k) = if stT gs l[k] m[k] ≠ 0 then stT gs l[k] m[k] else stL gs (l.drop (k + 1)) (m.drop (k + 1)) := by
  intro l m k h h'
  rw [List.drop_eq_getElem_cons h, List.drop_eq_getElem_cons h', stL]
theorem stand_does {gs : List Sy} : ∀ (n : Nat) (a b : T), a.size ≤ n → ∀ (I : Imm) (vg va vb : Value), RepG I vg gs → RepT I va a → RepT I vb b → OkG gs a → OkG gs b →
    Does Try.prog 58 [vg, va, vb] I [] (fun v _ δ' => v = .int .i64 (stT gs a b) ∧ δ' = []) := by
  intro n
  induction n with
  | zero => intro a b h; have := a.size_pos; omega
  | succ n ih =>
    intro a b hn I vg va vb hg hva hvb hA hB
    obtain ⟨ad, c, rfl⟩ := hg.shape
    obtain ⟨a0, c0, rfl, ha0⟩ := hva.shape
    obtain ⟨b0, e0, rfl, hb0⟩ := hvb.shape
    obtain ⟨_, _, _, hca, hba, ssa, hata, hsuba⟩ := hva.open
    obtain ⟨_, _, _, hcb, hbb, ssb, hatb, hsubb⟩ := hvb.open
    have hsa := chkT_size hA.chk
    have hsb := chkT_size hB.chk
    have hwa := wgtG_range hA
    have hwb := wgtG_range hB
    have hsz := size_eqT a
    have hha := hA.heads (true, a) (by rw [visT_eq]; exact List.mem_cons_self ..)
    have hhb := hB.heads (true, b) (by rw [visT_eq]; exact List.mem_cons_self ..)
    simp only at hha hhb
    have hgl := (rightG_len hA.right).2
    have hva2 := (chk_vis hA.chk (true, a) (by rw [visT_eq]; exact List.mem_cons_self ..)).2
    have hvb2 := (chk_vis hB.chk (true, b) (by rw [visT_eq]; exact List.mem_cons_self ..)).2
    simp only at hva2 hvb2
    have hcr : ∀ k, 0 ≤ cv a k ∧ cv a k ≤ 400 := fun k => by have h1 := cvV_range (visT true a) k; rw [cvV_T, visT_length] at h1; omega
    refine Does.intro Try.func58 rfl Try.ntmps58 rfl fun w0 => ?_
    refine code_seq ?_
    refine code_region ?_
    refine o_box rfl rfl rfl (fun b4 => ?_)
    refine o_box rfl rfl rfl (fun b5 => ?_)
    refine op_v (v_assign rfl) rfl ?_
    refine ops_nil ?_
    refine post_next ?_
    refine code_seq ?_
    refine code_seq ?_
    refine code_region ?_
    refine op_v (v_load ty25 rfl (by repeat (first | exact Has.here | apply Has.there)) rfl) rfl ?_
    refine op_v (v_load ty25 rfl (by repeat (first | exact Has.here | apply Has.there)) rfl) rfl ?_
    refine op_call pl39 rfl rfl ((TSame_does hva hvb (by omega) (by omega))) Parts.none ?_
    rintro v12 I12 _ hI12 ⟨rfl, rfl⟩
    refine ops_nil ?_
    refine post_next ?_
    refine code_cond rfl (fun hc0 => ?_) (fun hc0 => ?_)
    · have hab : a = b := by simpa using hc0
      refine code_seq ?_
      refine code_region ?_
      refine op_v (v_assign rfl) rfl ?_
      refine ops_nil ?_
      refine post_next ?_
      refine code_ret ?_
      refine post_ret_then ?_
      refine post_ret (rs := [.tmp 6]) rfl (List.Perm.refl _) (.cons (.tmp rfl) .nil) (List.nil_sublist _) ?_
      exact ⟨by rw [stT_eq, if_pos hab]; rfl, rfl⟩
    · have hab : ¬ a = b := by simpa using hc0
      refine code_skip ?_
      refine post_next ?_
      refine code_seq ?_
      refine code_region ?_
      refine o_makeMap rfl (fun b13 => ?_)
      refine op_v (v_build bl116 rfl rfl) rfl ?_
      refine o_box rfl rfl rfl (fun b15 => ?_)
      refine op_v (v_assign rfl) rfl ?_
      refine ops_nil ?_
      refine post_next ?_
      refine code_seq ?_
      refine code_region ?_
      refine op_v (v_move rfl) rfl ?_
      refine op_v (v_move rfl) rfl ?_
      refine op_v (v_load ty25 rfl (by repeat (first | exact Has.here | apply Has.there)) rfl) rfl ?_
      refine op_call pl90 rfl rfl ((add_does (.inl rfl) a.size a (Nat.le_refl _) _ _ 0 [] (fun _ => 0) (hg.mono (by repeat (first | exact Imm.le_refl _ | assumption | refine Imm.le_trans ?_ (by assumption)))) (hva.mono (by repeat (first | exact Imm.le_refl _ | assumption | refine Imm.le_trans ?_ (by assumption)))) hA VM.nil ⟨by omega, by omega⟩ (fun k => ⟨by omega, by omega⟩))) (List.Perm.refl _) ?_
      rintro v19 I19 _ hI19 ⟨xs1, rfl, hV1⟩
      refine ops_nil ?_
      refine post_next ?_
      refine code_seq ?_
      refine code_region ?_
      refine op_v (v_move rfl) rfl ?_
      refine op_v (v_move rfl) rfl ?_
      refine op_v (v_load ty25 rfl (by repeat (first | exact Has.here | apply Has.there)) rfl) rfl ?_
      refine op_call pl90 rfl rfl ((add_does (.inr rfl) b.size b (Nat.le_refl _) _ _ _ xs1 _ (hg.mono (by repeat (first | exact Imm.le_refl _ | assumption | refine Imm.le_trans ?_ (by assumption)))) (hvb.mono (by repeat (first | exact Imm.le_refl _ | assumption | refine Imm.le_trans ?_ (by assumption)))) hB hV1 ⟨by omega, by omega⟩ (fun k => by have := hcr k; constructor <;> omega))) (List.Perm.refl _) ?_
      rintro v23 I23 _ hI23 ⟨xs2, rfl, hV2⟩
      have hV : VM xs2 (DM a b) := hV2.congr (fun k => by unfold DM cv; split <;> omega)
      have hW : (0 : Int) + 1 * wgtG gs a + -1 * wgtG gs b = wgtG gs a - wgtG gs b := by omega
      rw [hW]
      refine ops_nil ?_
      refine post_next ?_
      refine code_seq ?_
      refine code_block ?_
      refine code_seq ?_
      refine code_region ?_
      refine op_v (v_move rfl) rfl ?_
      refine op_v (v_nilCheck rfl) rfl ?_
      first | refine op_v (v_fieldB 0 Try.underlying116 rfl rfl fz3 rfl) rfl ?_ | refine op_v (v_fieldI 0 Try.underlying116 rfl rfl fz3 rfl (by assumption)) rfl ?_ | refine op_v (v_field Try.underlying116 rfl fz3 rfl rfl) rfl ?_
      refine op_v (v_load ty3 rfl (by repeat (first | exact Has.here | apply Has.there)) rfl) rfl ?_
      by_cases h56 : wgtG gs a - wgtG gs b ≠ 0
      · first | refine op_v (v_cmpt rfl rfl rfl (by first | omega | (simp; done) | (simp; omega))) rfl ?_ | refine op_v (v_cmpf rfl rfl rfl (by first | omega | (simp; done) | (simp; omega))) rfl ?_ | refine op_v (v_cmp rfl rfl rfl) rfl ?_
        refine op_v (v_assign rfl) rfl ?_
        refine ops_nil ?_
        refine post_next ?_
        refine code_cond_t rfl ?_
        refine code_seq ?_
        refine code_region ?_
        refine op_v (v_move rfl) rfl ?_
        refine op_v (v_move rfl) rfl ?_
        refine op_v (v_nilCheck rfl) rfl ?_
        first | refine op_v (v_fieldB 0 Try.underlying116 rfl rfl fz3 rfl) rfl ?_ | refine op_v (v_fieldI 0 Try.underlying116 rfl rfl fz3 rfl (by assumption)) rfl ?_ | refine op_v (v_field Try.underlying116 rfl fz3 rfl rfl) rfl ?_
        refine op_v (v_load ty3 rfl (by repeat (first | exact Has.here | apply Has.there)) rfl) rfl ?_
        refine op_call pl91 rfl rfl ((side_does hV)) (List.Perm.refl _) ?_
        rintro v62 I62 _ hI62 ⟨rfl, rfl⟩
        refine op_v (v_assign rfl) rfl ?_
        refine ops_nil ?_
        refine post_next ?_
        refine code_ret ?_
        refine post_ret_block ?_
        refine post_ret_then ?_
        refine post_ret (rs := [.tmp 6]) rfl (List.Perm.refl _) (.cons (.tmp rfl) .nil) (List.nil_sublist _) ?_
        exact ⟨by rw [stT_eq gs a b, if_neg hab, if_pos (show wgtG gs a ≠ wgtG gs b by omega)]; rfl, rfl⟩
      · first | refine op_v (v_cmpt rfl rfl rfl (by first | omega | (simp; done) | (simp; omega))) rfl ?_ | refine op_v (v_cmpf rfl rfl rfl (by first | omega | (simp; done) | (simp; omega))) rfl ?_ | refine op_v (v_cmp rfl rfl rfl) rfl ?_
        refine op_v (v_assign rfl) rfl ?_
        refine ops_nil ?_
        refine post_next ?_
        refine code_cond_f rfl ?_
        refine code_seq ?_
        refine code_region ?_
        first | refine op_v (v_fieldB 0 Try.underlying25 rfl rfl fz3 rfl) rfl ?_ | refine op_v (v_fieldI 0 Try.underlying25 rfl rfl fz3 rfl (by assumption)) rfl ?_ | refine op_v (v_field Try.underlying25 rfl fz3 rfl rfl) rfl ?_
        refine op_v (v_load ty3 rfl (by repeat (first | exact Has.here | apply Has.there)) rfl) rfl ?_
        by_cases h66 : a.head < 0
        · first | refine op_v (v_cmpt rfl rfl rfl (by first | omega | (simp; done) | (simp; omega))) rfl ?_ | refine op_v (v_cmpf rfl rfl rfl (by first | omega | (simp; done) | (simp; omega))) rfl ?_ | refine op_v (v_cmp rfl rfl rfl) rfl ?_
          refine op_v (v_move rfl) rfl ?_
          first
            | (refine op_want rfl rfl ?_
               first | refine op_v (v_fieldB 0 Try.underlying25 rfl rfl fz3 rfl) rfl ?_ | refine op_v (v_fieldI 0 Try.underlying25 rfl rfl fz3 rfl (by assumption)) rfl ?_ | refine op_v (v_field Try.underlying25 rfl fz3 rfl rfl) rfl ?_)
            | (refine op_skip rfl rfl (by simp [undef]) rfl ?_)
          first
            | (refine op_want rfl rfl ?_
               refine op_v (v_load ty3 rfl (by repeat (first | exact Has.here | apply Has.there)) rfl) rfl ?_)
            | (refine op_skip rfl rfl (by simp [undef]) rfl ?_)
          first
            | (refine op_want rfl rfl ?_
               first | refine op_v (v_cmpt rfl rfl rfl (by first | omega | (simp; done) | (simp; omega))) rfl ?_ | refine op_v (v_cmpf rfl rfl rfl (by first | omega | (simp; done) | (simp; omega))) rfl ?_ | refine op_v (v_cmp rfl rfl rfl) rfl ?_)
            | (refine op_skip rfl rfl (by simp [undef]) rfl ?_)
          first | refine op_v (v_pickt rfl rfl) rfl ?_ | refine op_v (v_pickf rfl rfl) rfl ?_ | refine op_v (v_pickb rfl rfl rfl) rfl ?_
          refine op_v (v_assign rfl) rfl ?_
          refine ops_nil ?_
          refine post_next ?_
          refine code_cond_t rfl ?_
          refine code_seq ?_
          refine code_region ?_
          refine op_v (v_assign rfl) rfl ?_
          refine ops_nil ?_
          refine post_next ?_
          refine code_ret ?_
          refine post_ret_block ?_
          refine post_ret_then ?_
          refine post_ret (rs := [.tmp 6]) rfl (List.Perm.refl _) (.cons (.tmp rfl) .nil) (List.nil_sublist _) ?_
          exact ⟨by rw [stT_eq gs a b, if_neg hab, if_neg (show ¬ (wgtG gs a ≠ wgtG gs b) by omega), if_pos (show a.head < 0 ∨ b.head < 0 by omega)]; rfl, rfl⟩
        · first | refine op_v (v_cmpt rfl rfl rfl (by first | omega | (simp; done) | (simp; omega))) rfl ?_ | refine op_v (v_cmpf rfl rfl rfl (by first | omega | (simp; done) | (simp; omega))) rfl ?_ | refine op_v (v_cmp rfl rfl rfl) rfl ?_
          refine op_v (v_move rfl) rfl ?_
          first
            | (refine op_want rfl rfl ?_
               first | refine op_v (v_fieldB 0 Try.underlying25 rfl rfl fz3 rfl) rfl ?_ | refine op_v (v_fieldI 0 Try.underlying25 rfl rfl fz3 rfl (by assumption)) rfl ?_ | refine op_v (v_field Try.underlying25 rfl fz3 rfl rfl) rfl ?_)
            | (refine op_skip rfl rfl (by simp [undef]) rfl ?_)
          first
            | (refine op_want rfl rfl ?_
               refine op_v (v_load ty3 rfl (by repeat (first | exact Has.here | apply Has.there)) rfl) rfl ?_)
            | (refine op_skip rfl rfl (by simp [undef]) rfl ?_)
          by_cases h70 : b.head < 0
          · first
              | (refine op_want rfl rfl ?_
                 first | refine op_v (v_cmpt rfl rfl rfl (by first | omega | (simp; done) | (simp; omega))) rfl ?_ | refine op_v (v_cmpf rfl rfl rfl (by first | omega | (simp; done) | (simp; omega))) rfl ?_ | refine op_v (v_cmp rfl rfl rfl) rfl ?_)
              | (refine op_skip rfl rfl (by simp [undef]) rfl ?_)
            first | refine op_v (v_pickt rfl rfl) rfl ?_ | refine op_v (v_pickf rfl rfl) rfl ?_ | refine op_v (v_pickb rfl rfl rfl) rfl ?_
            refine op_v (v_assign rfl) rfl ?_
            refine ops_nil ?_
            refine post_next ?_
            refine code_cond_t rfl ?_
            refine code_seq ?_
            refine code_region ?_
            refine op_v (v_assign rfl) rfl ?_
            refine ops_nil ?_
            refine post_next ?_
            refine code_ret ?_
            refine post_ret_block ?_
            refine post_ret_then ?_
            refine post_ret (rs := [.tmp 6]) rfl (List.Perm.refl _) (.cons (.tmp rfl) .nil) (List.nil_sublist _) ?_
            exact ⟨by rw [stT_eq gs a b, if_neg hab, if_neg (show ¬ (wgtG gs a ≠ wgtG gs b) by omega), if_pos (show a.head < 0 ∨ b.head < 0 by omega)]; rfl, rfl⟩
          · first
              | (refine op_want rfl rfl ?_
                 first | refine op_v (v_cmpt rfl rfl rfl (by first | omega | (simp; done) | (simp; omega))) rfl ?_ | refine op_v (v_cmpf rfl rfl rfl (by first | omega | (simp; done) | (simp; omega))) rfl ?_ | refine op_v (v_cmp rfl rfl rfl) rfl ?_)
              | (refine op_skip rfl rfl (by simp [undef]) rfl ?_)
            first | refine op_v (v_pickt rfl rfl) rfl ?_ | refine op_v (v_pickf rfl rfl) rfl ?_ | refine op_v (v_pickb rfl rfl rfl) rfl ?_
            refine op_v (v_assign rfl) rfl ?_
            refine ops_nil ?_
            refine post_next ?_
            refine code_cond_f rfl ?_
            refine code_seq ?_
            refine code_region ?_
            first | refine op_v (v_fieldB 0 Try.underlying25 rfl rfl fz3 rfl) rfl ?_ | refine op_v (v_fieldI 0 Try.underlying25 rfl rfl fz3 rfl (by assumption)) rfl ?_ | refine op_v (v_field Try.underlying25 rfl fz3 rfl rfl) rfl ?_
            refine op_v (v_load ty3 rfl (by repeat (first | exact Has.here | apply Has.there)) rfl) rfl ?_
            first | refine op_v (v_fieldB 0 Try.underlying25 rfl rfl fz3 rfl) rfl ?_ | refine op_v (v_fieldI 0 Try.underlying25 rfl rfl fz3 rfl (by assumption)) rfl ?_ | refine op_v (v_field Try.underlying25 rfl fz3 rfl rfl) rfl ?_
            refine op_v (v_load ty3 rfl (by repeat (first | exact Has.here | apply Has.there)) rfl) rfl ?_
            by_cases h77 : a.head ≠ b.head
            · first | refine op_v (v_cmpt rfl rfl rfl (by first | omega | (simp; done) | (simp; omega))) rfl ?_ | refine op_v (v_cmpf rfl rfl rfl (by first | omega | (simp; done) | (simp; omega))) rfl ?_ | refine op_v (v_cmp rfl rfl rfl) rfl ?_
              refine op_v (v_assign rfl) rfl ?_
              refine ops_nil ?_
              refine post_next ?_
              refine code_cond_t rfl ?_
              refine code_seq ?_
              refine code_region ?_
              refine op_v (v_move rfl) rfl ?_
              first | refine op_v (v_fieldB 0 Try.underlying25 rfl rfl fz3 rfl) rfl ?_ | refine op_v (v_fieldI 0 Try.underlying25 rfl rfl fz3 rfl (by assumption)) rfl ?_ | refine op_v (v_field Try.underlying25 rfl fz3 rfl rfl) rfl ?_
              refine op_v (v_load ty3 rfl (by repeat (first | exact Has.here | apply Has.there)) rfl) rfl ?_
              first | refine op_v (v_fieldB 0 Try.underlying25 rfl rfl fz3 rfl) rfl ?_ | refine op_v (v_fieldI 0 Try.underlying25 rfl rfl fz3 rfl (by assumption)) rfl ?_ | refine op_v (v_field Try.underlying25 rfl fz3 rfl rfl) rfl ?_
              refine op_v (v_load ty3 rfl (by repeat (first | exact Has.here | apply Has.there)) rfl) rfl ?_
              first | refine op_v (v_subb rfl rfl rfl (by omega)) rfl ?_ | refine op_v (v_sub rfl rfl) rfl ?_
              refine op_call pl91 rfl rfl ((side_does hV)) (List.Perm.refl _) ?_
              rintro v84 I84 _ hI84 ⟨rfl, rfl⟩
              refine op_v (v_assign rfl) rfl ?_
              refine ops_nil ?_
              refine post_next ?_
              refine code_ret ?_
              refine post_ret_block ?_
              refine post_ret_then ?_
              refine post_ret (rs := [.tmp 6]) rfl (List.Perm.refl _) (.cons (.tmp rfl) .nil) (List.nil_sublist _) ?_
              exact ⟨by rw [stT_eq gs a b, if_neg hab, if_neg (show ¬ (wgtG gs a ≠ wgtG gs b) by omega), if_neg (show ¬ (a.head < 0 ∨ b.head < 0) by omega), if_pos h77]; rfl, rfl⟩
            · have hlen : (a.args.length : Int) = b.args.length := by rw [hA.arity (by omega), hB.arity (by omega), show a.head = b.head by omega]
              first | refine op_v (v_cmpt rfl rfl rfl (by first | omega | (simp; done) | (simp; omega))) rfl ?_ | refine op_v (v_cmpf rfl rfl rfl (by first | omega | (simp; done) | (simp; omega))) rfl ?_ | refine op_v (v_cmp rfl rfl rfl) rfl ?_
              refine op_v (v_assign rfl) rfl ?_
              refine ops_nil ?_
              refine post_next ?_
              refine code_cond_f rfl ?_
              refine code_seq ?_
              refine code_region ?_
              first | refine op_v (v_fieldB 1 Try.underlying25 rfl rfl fz23 rfl) rfl ?_ | refine op_v (v_fieldI 1 Try.underlying25 rfl rfl fz23 rfl (by assumption)) rfl ?_ | refine op_v (v_field Try.underlying25 rfl fz23 rfl rfl) rfl ?_
              refine op_v (v_load ty23 rfl (by repeat (first | exact Has.here | apply Has.there)) rfl) rfl ?_
              refine op_v (v_len Try.underlying23 rfl) rfl ?_
              refine op_v (v_move rfl) rfl ?_
              refine ops_nil ?_
              refine post_next ?_
              refine code_block ?_
              refine code_loop (fun m σ' I' δ' => ∃ k : Nat, m = a.args.length - k ∧ k ≤ a.args.length ∧ σ' = [(0, .slice ad gs.length c), (4, .pointer (some ⟨b4, 0, none⟩)), (5, .pointer (some ⟨b5, 0, none⟩)), (7, .pointer (some ⟨b15, 0, none⟩)), (26, .int .i64 a.args.length), (27, .int .i64 k)] ∧ I.le I' ∧ δ' = LoadE b15 b13 (wgtG gs a - wgtG gs b) xs2 ++ [.box b5 25 [.int .i64 b.head, .slice b0 b.args.length e0], .box b4 25 [.int .i64 a.head, .slice a0 a.args.length c0]] ∧ stL gs a.args b.args = stL gs (a.args.drop k) (b.args.drop k)) a.args.length [(0, .slice ad gs.length c), (4, .pointer (some ⟨b4, 0, none⟩)), (5, .pointer (some ⟨b5, 0, none⟩)), (7, .pointer (some ⟨b15, 0, none⟩)), (26, .int .i64 a.args.length), (27, .int .i64 (0 : Nat))] ⟨0, rfl, Nat.zero_le _, rfl, (by repeat (first | exact Imm.le_refl _ | assumption | refine Imm.le_trans ?_ (by assumption))), rfl, rfl⟩ ⟨rfl, rfl, rfl, rfl, rfl, rfl, trivial⟩ ?_
              rintro m _ I0 _ ⟨k, rfl, hk, rfl, hI0, rfl, hst⟩
              refine code_seq ?_
              refine code_region ?_
              first | refine op_v (v_cmpt rfl rfl rfl (by first | omega | (simp; done) | (simp; omega))) rfl ?_ | refine op_v (v_cmpf rfl rfl rfl (by first | omega | (simp; done) | (simp; omega))) rfl ?_ | refine op_v (v_cmp rfl rfl rfl) rfl ?_
              refine ops_nil ?_
              refine post_next ?_
              refine code_seq ?_
              refine code_cond rfl (fun hc4 => ?_) (fun hc4 => ?_)
              · have hlt : k < a.args.length := by simpa using hc4
                have hlt2 : k < b.args.length := by omega
                have hs1 := (hata k hlt).isSome
                have hs2 := (hatb k hlt2).isSome
                have hm := sizeL_mem a.args k hlt
                rw [stL_drop gs _ _ k hlt hlt2] at hst
                refine code_skip ?_
                refine post_next ?_
                refine code_seq ?_
                refine code_block ?_
                refine code_seq ?_
                refine code_region ?_
                refine op_v (v_move rfl) rfl ?_
                refine op_v (v_assign rfl) rfl ?_
                refine ops_nil ?_
                refine post_next ?_
                refine code_seq ?_
                refine code_draw (.fl 0 (.fl 1 (.fl 2 (.fl 3 (.fl 4 (.fl 5 (.fl 6 (.fl 7 (.fl 8 (.fl 9 (.fl 10 (.ef 11 (.ef 12 .done))))))))))))) (fun _ => _) mixed (by kernel_rfl) (by kernel_rfl) (fun _ => (List.Sublist.refl _)) ?_
                refine e_float rfl rfl (fun hs_ => PF.mk rfl (v_move rfl) hs_) (by repeat (first | exact Imm.le_refl _ | assumption | refine Imm.le_trans ?_ (by assumption))) (by intro x hx; first | exact hx | exact List.mem_cons_of_mem _ hx | exact List.mem_append_right _ hx | (simp only [List.mem_cons, List.not_mem_nil, or_false] at hx; repeat' (first | (subst hx; simp [cellsL]; done) | rcases hx with hx | hx)) | simp_all) ?_
                first | refine e_float rfl rfl (fun hs_ => PF.mk rfl (v_fieldB 1 Try.underlying25 rfl rfl fz23 rfl) hs_) (by repeat (first | exact Imm.le_refl _ | assumption | refine Imm.le_trans ?_ (by assumption))) (by intro x hx; first | exact hx | exact List.mem_cons_of_mem _ hx | exact List.mem_append_right _ hx | (simp only [List.mem_cons, List.not_mem_nil, or_false] at hx; repeat' (first | (subst hx; simp [cellsL]; done) | rcases hx with hx | hx)) | simp_all) ?_ | refine e_float rfl rfl (fun hs_ => PF.mk rfl (v_fieldI 1 Try.underlying25 rfl rfl fz23 rfl (by assumption)) hs_) (by repeat (first | exact Imm.le_refl _ | assumption | refine Imm.le_trans ?_ (by assumption))) (by intro x hx; first | exact hx | exact List.mem_cons_of_mem _ hx | exact List.mem_append_right _ hx | (simp only [List.mem_cons, List.not_mem_nil, or_false] at hx; repeat' (first | (subst hx; simp [cellsL]; done) | rcases hx with hx | hx)) | simp_all) ?_ | refine e_float rfl rfl (fun hs_ => PF.mk rfl (v_field Try.underlying25 rfl fz23 rfl rfl) hs_) (by repeat (first | exact Imm.le_refl _ | assumption | refine Imm.le_trans ?_ (by assumption))) (by intro x hx; first | exact hx | exact List.mem_cons_of_mem _ hx | exact List.mem_append_right _ hx | (simp only [List.mem_cons, List.not_mem_nil, or_false] at hx; repeat' (first | (subst hx; simp [cellsL]; done) | rcases hx with hx | hx)) | simp_all) ?_
                refine e_float rfl rfl (fun hs_ => PF.mk rfl (v_load ty23 rfl (by repeat (first | exact Has.here | apply Has.there)) rfl) hs_) (by repeat (first | exact Imm.le_refl _ | assumption | refine Imm.le_trans ?_ (by assumption))) (by intro x hx; first | exact hx | exact List.mem_cons_of_mem _ hx | exact List.mem_append_right _ hx | (simp only [List.mem_cons, List.not_mem_nil, or_false] at hx; repeat' (first | (subst hx; simp [cellsL]; done) | rcases hx with hx | hx)) | simp_all) ?_
                refine e_float rfl rfl (fun hs_ => PF.mk rfl (v_move rfl) hs_) (by repeat (first | exact Imm.le_refl _ | assumption | refine Imm.le_trans ?_ (by assumption))) (by intro x hx; first | exact hx | exact List.mem_cons_of_mem _ hx | exact List.mem_append_right _ hx | (simp only [List.mem_cons, List.not_mem_nil, or_false] at hx; repeat' (first | (subst hx; simp [cellsL]; done) | rcases hx with hx | hx)) | simp_all) ?_
                first | refine e_float rfl rfl (fun hs_ => PF.mk rfl (v_index Try.underlying23 sz25 rfl rfl (by omega) (by assumption)) hs_) (by repeat (first | exact Imm.le_refl _ | assumption | refine Imm.le_trans ?_ (by assumption))) (by intro x hx; first | exact hx | exact List.mem_cons_of_mem _ hx | exact List.mem_append_right _ hx | (simp only [List.mem_cons, List.not_mem_nil, or_false] at hx; repeat' (first | (subst hx; simp [cellsL]; done) | rcases hx with hx | hx)) | simp_all) ?_ | refine e_float rfl rfl (fun hs_ => PF.mk rfl (v_indexI Try.underlying23 sz25 rfl rfl (by first | omega | (simp; done) | (simp; omega)) (by first | omega | (simp; done) | (simp; omega)) (by assumption)) hs_) (by repeat (first | exact Imm.le_refl _ | assumption | refine Imm.le_trans ?_ (by assumption))) (by intro x hx; first | exact hx | exact List.mem_cons_of_mem _ hx | exact List.mem_append_right _ hx | (simp only [List.mem_cons, List.not_mem_nil, or_false] at hx; repeat' (first | (subst hx; simp [cellsL]; done) | rcases hx with hx | hx)) | simp_all) ?_
                first | refine e_float rfl rfl (fun hs_ => PF.mk rfl (v_loadI0 ty25 ((hata k hlt).mono hI0) rfl rfl rfl) hs_) (by repeat (first | exact Imm.le_refl _ | assumption | refine Imm.le_trans ?_ (by assumption))) (by intro x hx; first | exact hx | exact List.mem_cons_of_mem _ hx | exact List.mem_append_right _ hx | (simp only [List.mem_cons, List.not_mem_nil, or_false] at hx; repeat' (first | (subst hx; simp [cellsL]; done) | rcases hx with hx | hx)) | simp_all) ?_ | refine e_float rfl rfl (fun hs_ => PF.mk rfl (v_loadI ty25 ((hata k hlt).mono hI0) rfl rfl rfl) hs_) (by repeat (first | exact Imm.le_refl _ | assumption | refine Imm.le_trans ?_ (by assumption))) (by intro x hx; first | exact hx | exact List.mem_cons_of_mem _ hx | exact List.mem_append_right _ hx | (simp only [List.mem_cons, List.not_mem_nil, or_false] at hx; repeat' (first | (subst hx; simp [cellsL]; done) | rcases hx with hx | hx)) | simp_all) ?_
                first | refine e_float rfl rfl (fun hs_ => PF.mk rfl (v_fieldB 1 Try.underlying25 rfl rfl fz23 rfl) hs_) (by repeat (first | exact Imm.le_refl _ | assumption | refine Imm.le_trans ?_ (by assumption))) (by intro x hx; first | exact hx | exact List.mem_cons_of_mem _ hx | exact List.mem_append_right _ hx | (simp only [List.mem_cons, List.not_mem_nil, or_false] at hx; repeat' (first | (subst hx; simp [cellsL]; done) | rcases hx with hx | hx)) | simp_all) ?_ | refine e_float rfl rfl (fun hs_ => PF.mk rfl (v_fieldI 1 Try.underlying25 rfl rfl fz23 rfl (by assumption)) hs_) (by repeat (first | exact Imm.le_refl _ | assumption | refine Imm.le_trans ?_ (by assumption))) (by intro x hx; first | exact hx | exact List.mem_cons_of_mem _ hx | exact List.mem_append_right _ hx | (simp only [List.mem_cons, List.not_mem_nil, or_false] at hx; repeat' (first | (subst hx; simp [cellsL]; done) | rcases hx with hx | hx)) | simp_all) ?_ | refine e_float rfl rfl (fun hs_ => PF.mk rfl (v_field Try.underlying25 rfl fz23 rfl rfl) hs_) (by repeat (first | exact Imm.le_refl _ | assumption | refine Imm.le_trans ?_ (by assumption))) (by intro x hx; first | exact hx | exact List.mem_cons_of_mem _ hx | exact List.mem_append_right _ hx | (simp only [List.mem_cons, List.not_mem_nil, or_false] at hx; repeat' (first | (subst hx; simp [cellsL]; done) | rcases hx with hx | hx)) | simp_all) ?_
                refine e_float rfl rfl (fun hs_ => PF.mk rfl (v_load ty23 rfl (by repeat (first | exact Has.here | apply Has.there)) rfl) hs_) (by repeat (first | exact Imm.le_refl _ | assumption | refine Imm.le_trans ?_ (by assumption))) (by intro x hx; first | exact hx | exact List.mem_cons_of_mem _ hx | exact List.mem_append_right _ hx | (simp only [List.mem_cons, List.not_mem_nil, or_false] at hx; repeat' (first | (subst hx; simp [cellsL]; done) | rcases hx with hx | hx)) | simp_all) ?_
                refine e_float rfl rfl (fun hs_ => PF.mk rfl (v_move rfl) hs_) (by repeat (first | exact Imm.le_refl _ | assumption | refine Imm.le_trans ?_ (by assumption))) (by intro x hx; first | exact hx | exact List.mem_cons_of_mem _ hx | exact List.mem_append_right _ hx | (simp only [List.mem_cons, List.not_mem_nil, or_false] at hx; repeat' (first | (subst hx; simp [cellsL]; done) | rcases hx with hx | hx)) | simp_all) ?_
                first | refine e_float rfl rfl (fun hs_ => PF.mk rfl (v_index Try.underlying23 sz25 rfl rfl (by omega) (by assumption)) hs_) (by repeat (first | exact Imm.le_refl _ | assumption | refine Imm.le_trans ?_ (by assumption))) (by intro x hx; first | exact hx | exact List.mem_cons_of_mem _ hx | exact List.mem_append_right _ hx | (simp only [List.mem_cons, List.not_mem_nil, or_false] at hx; repeat' (first | (subst hx; simp [cellsL]; done) | rcases hx with hx | hx)) | simp_all) ?_ | refine e_float rfl rfl (fun hs_ => PF.mk rfl (v_indexI Try.underlying23 sz25 rfl rfl (by first | omega | (simp; done) | (simp; omega)) (by first | omega | (simp; done) | (simp; omega)) (by assumption)) hs_) (by repeat (first | exact Imm.le_refl _ | assumption | refine Imm.le_trans ?_ (by assumption))) (by intro x hx; first | exact hx | exact List.mem_cons_of_mem _ hx | exact List.mem_append_right _ hx | (simp only [List.mem_cons, List.not_mem_nil, or_false] at hx; repeat' (first | (subst hx; simp [cellsL]; done) | rcases hx with hx | hx)) | simp_all) ?_
                first | refine e_float rfl rfl (fun hs_ => PF.mk rfl (v_loadI0 ty25 ((hatb k hlt2).mono hI0) rfl rfl rfl) hs_) (by repeat (first | exact Imm.le_refl _ | assumption | refine Imm.le_trans ?_ (by assumption))) (by intro x hx; first | exact hx | exact List.mem_cons_of_mem _ hx | exact List.mem_append_right _ hx | (simp only [List.mem_cons, List.not_mem_nil, or_false] at hx; repeat' (first | (subst hx; simp [cellsL]; done) | rcases hx with hx | hx)) | simp_all) ?_ | refine e_float rfl rfl (fun hs_ => PF.mk rfl (v_loadI ty25 ((hatb k hlt2).mono hI0) rfl rfl rfl) hs_) (by repeat (first | exact Imm.le_refl _ | assumption | refine Imm.le_trans ?_ (by assumption))) (by intro x hx; first | exact hx | exact List.mem_cons_of_mem _ hx | exact List.mem_append_right _ hx | (simp only [List.mem_cons, List.not_mem_nil, or_false] at hx; repeat' (first | (subst hx; simp [cellsL]; done) | rcases hx with hx | hx)) | simp_all) ?_
                refine e_eff rfl (by intro cs b hc; cases hc) (by intro c hc; cases hc) ?_
                refine op_call pl58 rfl rfl ((ih a.args[k] b.args[k] (by omega) _ _ _ _ (hg.mono (by repeat (first | exact Imm.le_refl _ | assumption | refine Imm.le_trans ?_ (by assumption)))) ((hsuba k hlt).mono (by repeat (first | exact Imm.le_refl _ | assumption | refine Imm.le_trans ?_ (by assumption)))) ((hsubb k hlt2).mono (by repeat (first | exact Imm.le_refl _ | assumption | refine Imm.le_trans ?_ (by assumption)))) (hA.child k hlt).1 (hB.child k hlt2).1)) Parts.none ?_
                rintro v41 I41 _ hI41 ⟨rfl, rfl⟩
                refine ops_nil ?_
                refine e_next rfl (side_all (by repeat (first | exact Imm.le_refl _ | assumption | refine Imm.le_trans ?_ (by assumption))) (fun _ => (by intro x hx; first | exact hx | exact List.mem_cons_of_mem _ hx | exact List.mem_append_right _ hx | (simp only [List.mem_cons, List.not_mem_nil, or_false] at hx; repeat' (first | (subst hx; simp [cellsL]; done) | rcases hx with hx | hx)) | simp_all))) ?_
                refine e_eff rfl (by intro cs b hc; cases hc) (by intro c hc; cases hc) ?_
                refine op_v (v_assign rfl) rfl ?_
                refine ops_nil ?_
                refine e_next rfl (side_nil (by kernel_rfl)) ?_
                refine e_done ?_
                refine post_next ?_
                refine code_seq ?_
                refine code_region ?_
                refine op_v (v_move rfl) rfl ?_
                by_cases h43 : stT gs a.args[k] b.args[k] ≠ 0
                · first | refine op_v (v_cmpt rfl rfl rfl (by first | omega | (simp; done) | (simp; omega))) rfl ?_ | refine op_v (v_cmpf rfl rfl rfl (by first | omega | (simp; done) | (simp; omega))) rfl ?_ | refine op_v (v_cmp rfl rfl rfl) rfl ?_
                  refine ops_nil ?_
                  refine post_next ?_
                  refine code_cond_t rfl ?_
                  refine code_seq ?_
                  refine code_seq ?_
                  refine code_region ?_
                  refine op_v (v_move rfl) rfl ?_
                  by_cases h45 : stT gs a.args[k] b.args[k] = 2
                  · first | refine op_v (v_cmpt rfl rfl rfl (by first | omega | (simp; done) | (simp; omega))) rfl ?_ | refine op_v (v_cmpf rfl rfl rfl (by first | omega | (simp; done) | (simp; omega))) rfl ?_ | refine op_v (v_cmp rfl rfl rfl) rfl ?_
                    refine ops_nil ?_
                    refine post_next ?_
                    refine code_cond_t rfl ?_
                    refine code_seq ?_
                    refine code_region ?_
                    refine op_v (v_move rfl) rfl ?_
                    refine op_v (v_assign rfl) rfl ?_
                    refine ops_nil ?_
                    refine post_next ?_
                    refine code_ret ?_
                    refine post_ret_then ?_
                    refine post_ret_block ?_
                    refine post_ret_then ?_
                    refine post_ret_then ?_
                    refine post_ret_block ?_
                    refine post_ret_block ?_
                    refine post_ret_then ?_
                    refine post_ret (rs := [.tmp 6]) rfl (List.Perm.refl _) (.cons (.tmp rfl) .nil) (List.nil_sublist _) ?_
                    rw [if_pos h43] at hst
                    exact ⟨by rw [stT_eq gs a b, if_neg hab, if_neg (show ¬ (wgtG gs a ≠ wgtG gs b) by omega), if_neg (show ¬ (a.head < 0 ∨ b.head < 0) by omega), if_neg h77, hst, if_neg h43, if_pos h45, h45]; rfl, rfl⟩
                  · first | refine op_v (v_cmpt rfl rfl rfl (by first | omega | (simp; done) | (simp; omega))) rfl ?_ | refine op_v (v_cmpf rfl rfl rfl (by first | omega | (simp; done) | (simp; omega))) rfl ?_ | refine op_v (v_cmp rfl rfl rfl) rfl ?_
                    refine ops_nil ?_
                    refine post_next ?_
                    refine code_cond_f rfl ?_
                    refine code_skip ?_
                    refine post_next ?_
                    refine code_seq ?_
                    refine code_region ?_
                    refine op_v (v_move rfl) rfl ?_
                    refine op_v (v_move rfl) rfl ?_
                    refine op_call pl91 rfl rfl ((side_does hV)) (List.Perm.refl _) ?_
                    rintro v49 I49 _ hI49 ⟨rfl, rfl⟩
                    refine op_v (v_assign rfl) rfl ?_
                    refine ops_nil ?_
                    refine post_next ?_
                    refine code_ret ?_
                    refine post_ret_block ?_
                    refine post_ret_then ?_
                    refine post_ret_then ?_
                    refine post_ret_block ?_
                    refine post_ret_block ?_
                    refine post_ret_then ?_
                    refine post_ret (rs := [.tmp 6]) rfl (List.Perm.refl _) (.cons (.tmp rfl) .nil) (List.nil_sublist _) ?_
                    rw [if_pos h43] at hst
                    exact ⟨by rw [stT_eq gs a b, if_neg hab, if_neg (show ¬ (wgtG gs a ≠ wgtG gs b) by omega), if_neg (show ¬ (a.head < 0 ∨ b.head < 0) by omega), if_neg h77, hst, if_neg h43, if_neg h45]; rfl, rfl⟩
                · first | refine op_v (v_cmpt rfl rfl rfl (by first | omega | (simp; done) | (simp; omega))) rfl ?_ | refine op_v (v_cmpf rfl rfl rfl (by first | omega | (simp; done) | (simp; omega))) rfl ?_ | refine op_v (v_cmp rfl rfl rfl) rfl ?_
                  refine ops_nil ?_
                  refine post_next ?_
                  refine code_cond_f rfl ?_
                  refine code_skip ?_
                  refine post_out ?_
                  refine post_next ?_
                  refine code_region ?_
                  first | refine op_v (v_addb rfl rfl rfl (by omega)) rfl ?_ | refine op_v (v_add rfl rfl) rfl ?_
                  refine op_v (v_move rfl) rfl ?_
                  refine ops_nil ?_
                  refine post_again (a.args.length - (k + 1)) [(0, .slice ad gs.length c), (4, .pointer (some ⟨b4, 0, none⟩)), (5, .pointer (some ⟨b5, 0, none⟩)), (7, .pointer (some ⟨b15, 0, none⟩)), (26, .int .i64 a.args.length), (27, .int .i64 (k + 1 : Nat))] (by omega) ⟨k + 1, rfl, hlt, rfl, (by repeat (first | exact Imm.le_refl _ | assumption | refine Imm.le_trans ?_ (by assumption))), rfl, by rw [hst, if_neg h43]⟩ ⟨rfl, rfl, rfl, rfl, rfl, rfl, trivial⟩
              · have hge : k = a.args.length := by simp at hc4; omega
                refine code_exit ?_
                refine post_exit_then ?_
                refine post_exit_then ?_
                refine post_exit ?_
                refine post_out ?_
                refine post_next ?_
                refine code_seq ?_
                refine code_region ?_
                refine op_v (v_assign rfl) rfl ?_
                refine ops_nil ?_
                refine post_next ?_
                refine code_ret ?_
                refine post_ret (rs := [.tmp 6]) rfl (List.Perm.refl _) (.cons (.tmp rfl) .nil) (List.nil_sublist _) ?_
                have hz : stL gs a.args b.args = 0 := by rw [hst, hge, List.drop_length]; cases b.args.drop a.args.length <;> rfl
                exact ⟨by rw [stT_eq gs a b, if_neg hab, if_neg (show ¬ (wgtG gs a ≠ wgtG gs b) by omega), if_neg (show ¬ (a.head < 0 ∨ b.head < 0) by omega), if_neg h77, if_pos hz]; rfl, rfl⟩
theorem KCompare_does {I : Imm} {vg va vb : Value} {gs : List Sy} {a b : T} (hg : RepG I vg gs) (hva : RepT I va a) (hvb : RepT I vb b) (ha : a.size ≤ 1000000000) (hb : b.size ≤ 1000000000) :
    Does Try.prog 19 [vg, va, vb] I [] (fun v _ δ' => v = .tuple #[.int .i64 (if wrongG gs [a, b] = 0 then stT gs a b else 0), .int .i64 (wrongG gs [a, b])] ∧ δ' = []) := by
  obtain ⟨a0, c0, rfl, ha0⟩ := hva.shape
  obtain ⟨b0, e0, rfl, hb0⟩ := hvb.shape
  refine Does.intro Try.func19 rfl Try.ntmps19 rfl fun w0 => ?_
  refine code_seq ?_
  refine code_region ?_
  refine o_box rfl rfl rfl (fun b4 => ?_)
  refine o_box rfl rfl rfl (fun b5 => ?_)
  refine op_v (v_assign rfl) rfl ?_
  refine op_v (v_assign rfl) rfl ?_
  refine ops_nil ?_
  refine post_next ?_
  refine code_seq ?_
  refine code_seq ?_
  refine code_region ?_
  refine op_v (v_move rfl) rfl ?_
  refine op_v (v_load ty25 rfl (by repeat (first | exact Has.here | apply Has.there)) rfl) rfl ?_
  refine op_v (v_load ty25 rfl (by repeat (first | exact Has.here | apply Has.there)) rfl) rfl ?_
  refine o_buildSlice (xs := [(Go.Operand.tmp 10), (Go.Operand.tmp 11)]) Try.underlying23 bs25 rfl rfl rfl rfl rfl (fun b12 => ?_)
  refine OpsJ.freezeRow Del.here ?_
  rintro I12 a12 c12 hI12 hq hc12 hl12 hcells12
  cases hq
  refine op_call pl57 rfl rfl ((wrong_does (hg.mono (by repeat (first | exact Imm.le_refl _ | assumption | refine Imm.le_trans ?_ (by assumption)))) (RowT.repS (ts := [a, b]) rfl hcells12 ((RowT.one (hva.mono hI12)).app (RowT.one (hvb.mono hI12))) hc12 (by omega)) (by intro t ht; simp at ht; rcases ht with rfl | rfl <;> assumption))) Parts.none ?_
  rintro v13 I13 _ hI13 ⟨rfl, rfl⟩
  refine op_v (v_assign rfl) rfl ?_
  refine ops_nil ?_
  refine post_next ?_
  refine code_seq ?_
  refine code_region ?_
  refine op_v (v_move rfl) rfl ?_
  by_cases h15 : wrongG gs [a, b] ≠ 0
  · first | refine op_v (v_cmpt rfl rfl rfl (by first | omega | (simp; done) | (simp; omega))) rfl ?_ | refine op_v (v_cmpf rfl rfl rfl (by first | omega | (simp; done) | (simp; omega))) rfl ?_ | refine op_v (v_cmp rfl rfl rfl) rfl ?_
    refine ops_nil ?_
    refine post_next ?_
    refine code_cond_t rfl ?_
    refine code_seq ?_
    refine code_region ?_
    refine op_v (v_move rfl) rfl ?_
    refine op_v (v_assign rfl) rfl ?_
    refine op_v (v_assign rfl) rfl ?_
    refine ops_nil ?_
    refine post_next ?_
    refine code_ret ?_
    refine post_ret_then ?_
    refine post_ret (rs := [.tmp 6, .tmp 7]) rfl (List.Perm.refl _) (.cons (.tmp rfl) (.cons (.tmp rfl) .nil)) (List.nil_sublist _) ?_
    exact ⟨by rw [if_neg h15]; rfl, rfl⟩
  · first | refine op_v (v_cmpt rfl rfl rfl (by first | omega | (simp; done) | (simp; omega))) rfl ?_ | refine op_v (v_cmpf rfl rfl rfl (by first | omega | (simp; done) | (simp; omega))) rfl ?_ | refine op_v (v_cmp rfl rfl rfl) rfl ?_
    refine ops_nil ?_
    refine post_next ?_
    refine code_cond_f rfl ?_
    refine code_skip ?_
    refine post_next ?_
    refine code_seq ?_
    refine code_region ?_
    refine op_v (v_move rfl) rfl ?_
    refine op_v (v_load ty25 rfl (by repeat (first | exact Has.here | apply Has.there)) rfl) rfl ?_
    refine op_v (v_load ty25 rfl (by repeat (first | exact Has.here | apply Has.there)) rfl) rfl ?_
    have h0 : wrongG gs [a, b] = 0 := by omega
    have hall := wrongG_ok.1 h0
    refine op_call pl58 rfl rfl ((stand_does a.size a b (Nat.le_refl _) _ _ _ _ (hg.mono (by repeat (first | exact Imm.le_refl _ | assumption | refine Imm.le_trans ?_ (by assumption)))) (hva.mono (by repeat (first | exact Imm.le_refl _ | assumption | refine Imm.le_trans ?_ (by assumption)))) (hvb.mono (by repeat (first | exact Imm.le_refl _ | assumption | refine Imm.le_trans ?_ (by assumption)))) (hall a (by simp)) (hall b (by simp)))) Parts.none ?_
    rintro v20 I20 _ hI20 ⟨rfl, rfl⟩
    refine op_v (v_assign rfl) rfl ?_
    refine op_v (v_assign rfl) rfl ?_
    refine ops_nil ?_
    refine post_next ?_
    refine code_ret ?_
    refine post_ret (rs := [.tmp 6, .tmp 7]) rfl (List.Perm.refl _) (.cons (.tmp rfl) (.cons (.tmp rfl) .nil)) (List.nil_sublist _) ?_
    exact ⟨by rw [if_pos h0, h0]; rfl, rfl⟩
end Go.Proofs.Ytegceppoioeeaaa
/- The rules of the logic for rows of one's own that are cut, cleared and laid out ahead. No condition. -/
set_option linter.unusedVariables false
set_option linter.unusedSimpArgs false
namespace Go.Proofs.Ytegceppoioeeaaa.Lg
open Go Go.RowKit

variable {C : Ctx} {Q : Exit → Act → World → Prop} {σ : Env} {ds : List Nat} {I : Imm} {δ : List Ent} {ops : Array Oper} {rest : List Oper}
variable {d : Nat} {ty : TypeId} {pos : String} {after : Array Edge}

theorem v_cap {t e : TypeId} {x : Operand} {ad : Option Addr} {n c : Nat} (ht : C.P.underlying t = some (.slice e)) (hx : evS σ x = some (.slice ad n c)) :
    ValJ C σ ds I δ (.call { callee := .builtin .cap, args := #[x], argTypes := #[t] }) (.int .i64 c) :=
  fun _ _ _ _ _ a w he _ => by
    have hu : (underlying t).run C.P w = .ok (.slice e) w := by simp [underlying, program, Sem.run, ht]
    simp [execOp, resolve, invoke, builtin, Builtin.cap_, he.ev hx, hu, goInt]
theorem v_slice3 {t e : TypeId} {x y z u : Operand} {ad : Option Addr} {n c l h m size : Nat} (ht : C.P.underlying t = some (.slice e)) (hsz : (C.P.info? e).map (·.size) = some size)
    (hx : evS σ x = some (.slice ad n c)) (hy : evS σ y = some (.int .i64 (l : Int))) (hz : evS σ z = some (.int .i64 (h : Int))) (hu' : evS σ u = some (.int .i64 (m : Int))) (h1 : l ≤ h) (h2 : h ≤ m) (h3 : m ≤ c) :
    ValJ C σ ds I δ (.slice t x (some y) (some z) (some u)) (.slice (cutAt ad m l size) (h - l) (m - l)) :=
  fun _ _ _ _ _ a w he _ => by
    have hu : (underlying t).run C.P w = .ok (.slice e) w := by simp [underlying, program, Sem.run, ht]
    cases hq : C.P.info? e with
    | none => simp [hq] at hsz
    | some inf =>
      simp [hq] at hsz
      simp [execOp, he.ev hx, he.ev hy, he.ev hz, he.ev hu', Instr.sliceAt, Instr.slice, Instr.sliceBounds, Instr.sliceBound, asIntOf, hu, sizeOf, typeInfo, program, Sem.run, hq, hsz, h1, h2, h3, cutAt]
theorem v_slice2 {t e : TypeId} {x y z : Operand} {ad : Option Addr} {n c l h size : Nat} (ht : C.P.underlying t = some (.slice e)) (hsz : (C.P.info? e).map (·.size) = some size)
    (hx : evS σ x = some (.slice ad n c)) (hy : evS σ y = some (.int .i64 (l : Int))) (hz : evS σ z = some (.int .i64 (h : Int))) (h1 : l ≤ h) (h2 : h ≤ c) :
    ValJ C σ ds I δ (.slice t x (some y) (some z) none) (.slice (cutAt ad c l size) (h - l) (c - l)) :=
  fun _ _ _ _ _ a w he _ => by
    have hu : (underlying t).run C.P w = .ok (.slice e) w := by simp [underlying, program, Sem.run, ht]
    cases hq : C.P.info? e with
    | none => simp [hq] at hsz
    | some inf =>
      simp [hq] at hsz
      simp [execOp, he.ev hx, he.ev hy, he.ev hz, Instr.sliceAt, Instr.slice, Instr.sliceBounds, Instr.sliceBound, asIntOf, hu, sizeOf, typeInfo, program, Sem.run, hq, hsz, h1, h2, cutAt]

theorem row_short {w : World} {e : TypeId} {size n h c : Nat} {A : Option Addr} {xs : List Value} (hrow : w.ownsRow 0 e size (.slice A n c) n xs) (hh : h ≤ n) : w.ownsRow 0 e size (.slice A h c) h (xs.take (h * size)) := by
  obtain ⟨hl, hx⟩ := hrow
  have hle : h * size ≤ n * size := Nat.mul_le_mul_right _ hh
  refine ⟨by rw [List.length_take, hl]; omega, ?_⟩
  rcases hx with ⟨he, hn⟩ | ⟨g, cap, cur, he, h1, h2, h3, h4, h5, h6⟩
  · cases he
    exact .inl ⟨by have : h = 0 := by omega
                   rw [this], by omega⟩
  · cases he
    exact .inr ⟨g, c, cur, rfl, h1, h2, by omega, h4, h5, by rw [← h6, List.take_take, Nat.min_eq_left hle]⟩

theorem append_inplace {P : Program} {t ty e : TypeId} {size : Nat} (ht : P.underlying t = some (.slice e)) (hsz : (P.info? e).map (·.size) = some size) {A B : Option Addr} {i c m c2 : Nat} (hle : i + m ≤ c) {w w' : World} {v' : Value}
    (hr : (Builtin.append_ #[t, t] ty #[.slice A i c, .slice B m c2]).run P w = .ok v' w') : v' = .slice A (i + m) c := by
  have hu : (underlying t).run P w = .ok (.slice e) w := by simp [underlying, program, Sem.run, ht]
  cases hq : P.info? e with
  | none => simp [hq] at hsz
  | some inf =>
    have hs : (sizeOf e).run P w = .ok inf.size w := by simp [sizeOf, typeInfo, program, Sem.run, hq]
    simp [Builtin.append_, hu, hs, Builtin.lenOf, hle] at hr
    cases hf : (Builtin.firstCells inf.size m (.slice B m c2)).run P w with
    | halt x w1 => simp [hf] at hr
    | ok new w1 =>
      simp [hf] at hr
      cases A with
      | none => simp at hr; exact hr.1.symm
      | some a =>
        simp at hr
        cases hst : (storeCells (a.add (i * inf.size)) new.toList).run P w1 with
        | halt x w2 => simp [hst] at hr
        | ok u w2 => simp [hst] at hr; exact hr.1.symm

/-- the front of a row, and what stands behind some place of it, in the same row -/
theorem o_appendSelf {t e : TypeId} {z : Value} {size bytes n i j m c c2 : Nat} {s x : Operand} {A : Option Addr} {xs : List Value} {G : List Ent} (ht : C.P.underlying t = some (.slice e)) (hb : (C.P.info? e).map (fun i => (i.zero, i.size, i.bytes)) = some (some z, size, bytes))
    (hs : evS σ s = some (.slice A i c)) (hx : evS σ x = some (.slice (cutAt A c j size) m c2)) (hd : Nat.blt d C.n = true) (hsw : Swap δ (.row (.slice A n c) e size n xs) G (.row (.slice A (i + m) c) e size (i + m) (xs.take (i * size) ++ (xs.drop (j * size)).take (m * size))))
    (hij : i ≤ j) (hjm : j + m ≤ n) (hnc : n ≤ c) (h1 : ∀ u ∈ xs, u.oneCell' = true) (hbd : n ≤ 4398046511104) (hby : n * bytes ≤ 140737488355328) (hA : A.isSome = true)
    (k : OpsJ C ops Q rest ((d, .slice A (i + m) c) :: σ) ds I G) (hz : z.cells.size = size := by rfl) (hsz : Nat.blt 0 size = true := by rfl) :
    OpsJ C ops Q ({ dst := some d, op := .call { callee := .builtin .append, args := #[s, x], argTypes := #[t, t] }, type := ty, pos := pos, after := after, guard := none } :: rest) σ ds I δ :=
  op_step rfl rfl hd (by intro c hc; cases hc) (fun a w he hsat => by
    have hsz' : 0 < size := by simpa [Nat.blt_eq] using hsz
    obtain ⟨l, r, hl1, _⟩ := hsw.split
    have hown : w.ownsRow 0 e size (.slice A n c) n xs := hsat.ents (.row (.slice A n c) e size n xs) (by rw [hl1]; simp)
    obtain ⟨a0, rfl⟩ := Option.isSome_iff_exists.1 hA
    obtain ⟨g, rfl⟩ : ∃ g, a0 = ⟨g, 0, none⟩ := by
      rcases hown.2 with ⟨he, _⟩ | ⟨g, cap, cur, he, _⟩
      · cases he
      · exact ⟨g, by injection he with he; injection he⟩
    have hshort := row_short hown (show i ≤ n by omega)
    obtain ⟨B, hB⟩ : ∃ B : Addr, cutAt (some ⟨g, 0, none⟩) c j size = some B := Option.isSome_iff_exists.1 (cutAt_isSome rfl)
    rw [hB] at hx
    have hxl := hown.1
    have hnl : ((xs.drop (j * size)).take (m * size)).length = m * size := by
      have : j * size + m * size ≤ n * size := by rw [← Nat.add_mul]; exact Nat.mul_le_mul_right _ hjm
      rw [List.length_take, List.length_drop]; omega
    have hread : ∀ q u, ((xs.drop (j * size)).take (m * size))[q]? = some u → w.cell? (B.add q) = some u := fun q u hq => by
      have hqm : q < m * size := by have := (List.getElem?_eq_some_iff.1 hq).1; omega
      have hm : 0 < m := by rcases Nat.eq_zero_or_pos m with h | h; (subst h; simp at hqm); exact h
      have hcj : ¬ c = j := by omega
      unfold cutAt at hB
      rw [if_neg hcj] at hB
      simp only [Option.map_some, Option.some.injEq] at hB
      subst hB
      rw [List.getElem?_take_of_lt hqm, List.getElem?_drop] at hq
      have h2 := hown.cells (g := g) rfl (j * size + q) u hq
      rw [add_add]; exact h2
    cases hq : C.P.info? e with
    | none => simp [hq] at hb
    | some inf =>
      simp [hq] at hb
      obtain ⟨hb1, hb2, hb3⟩ := hb
      have hbi : (i + m) * bytes ≤ n * bytes := Nat.mul_le_mul_right _ (by omega)
      obtain ⟨v', w', hr, hown', hg, _, hat⟩ := run_append_own_at (P := C.P) (w := w) 0 t ty e inf z size bytes ht hq hb1 hb2 hb3 hz hsz' _ i _ hshort B m c2 _ hnl hread (fun u hu => h1 u (List.mem_of_mem_drop (List.mem_of_mem_take hu))) (by simp only [maxLen]; omega) (by omega) (Nat.zero_le _)
      have hv' := append_inplace (size := size) ht (by rw [hq]; simp [hb2]) (show i + m ≤ c by omega) hr
      subst hv'
      obtain ⟨s', t'⟩ := hsat.swap hsw hg.os hg.tape hg.output hg.size (fun b hlt hne => hg.block b hlt (fun e => hne (show (some g : Option Nat) = some b from e.symm))) hown' (fun b hb => .inl hb)
      refine ⟨_, w', I, G, ?_, s', t', k⟩
      simp [execOp, resolve, invoke, builtin, he.ev hs, he.ev hx, hr])

/-- a step on the heap whose value nobody takes -/
theorem op_actv {o : Oper} (hg : o.guard = none) (hdst : o.dst = none) (hnd : ∀ c, o.op ≠ .defer c)
    (hrun : ∀ a w, EnvOK C.n σ ds a → Sat w I δ → ∃ v w' I' δ', (execOp a.eval o).run C.P w = .ok (.value v) w' ∧ Sat w' I' δ' ∧ Tr w I δ w' I' δ' ∧ OpsJ C ops Q rest σ ds I' δ') : OpsJ C ops Q (o :: rest) σ ds I δ := by
  intro a w he hs ht
  obtain ⟨v, w', I', δ', hr, s', t', k⟩ := hrun a w he hs
  refine wpListIn_plain hg fun K hK => ?_
  unfold Oper.wpIn
  refine ⟨fun _ _ => trivial, ?_⟩
  rw [semAt_eq _ _ _ hnd, hr, Oper.uponIn_value]
  refine hK _ _ ?_
  exact k _ _ (he.put' hdst _) s' (ht.trans t')

theorem has_swap {δ : List Ent} {x : Ent} (h : Has δ x) : Swap δ x δ x := by
  induction h with
  | here => exact Swap.here
  | there _ ih => exact Swap.there ih
/-- what stands behind a row, as far as there is room, is cleared -/
theorem o_clear {t e : TypeId} {z : Value} {size n m c c2 : Nat} {x : Operand} {A : Option Addr} {xs : List Value} (ht : C.P.underlying t = some (.slice e)) (hb : (C.P.info? e).map (fun i => (i.zero, i.size)) = some (some z, size)) (hz1 : z.cells.toList.all (·.oneCell') = true) (hzs : Nat.beq z.cells.size size = true)
    (hx : evS σ x = some (.slice (cutAt A c n size) m c2)) (hh : Has δ (.row (.slice A n c) e size n xs)) (hm : n + m ≤ c)
    (k : OpsJ C ops Q rest σ ds I δ) :
    OpsJ C ops Q ({ dst := none, op := .call { callee := .builtin .clear, args := #[x], argTypes := #[t] }, type := ty, pos := pos, after := after, guard := none } :: rest) σ ds I δ :=
  op_actv rfl rfl (by intro c hc; cases hc) (fun a w he hsat => by
    have hown : w.ownsRow 0 e size (.slice A n c) n xs := hsat.ents _ hh.mem
    have hu : (underlying t).run C.P w = .ok (.slice e) w := by simp [underlying, program, Sem.run, ht]
    have hzs' : z.cells.size = size := Nat.eq_of_beq_eq_true hzs
    rcases Nat.eq_zero_or_pos m with hm0 | hm0
    · subst hm0
      refine ⟨.tuple #[], w, I, δ, ?_, hsat, Tr.refl _ _ _, k⟩
      cases hq : cutAt A c n size <;> simp [execOp, resolve, invoke, builtin, Builtin.clear_, he.ev hx, hu, hq]
    · obtain ⟨hlen, hr⟩ := hown
      rcases hr with ⟨hr, hn0⟩ | ⟨g, cap, cur, hr, hbase, hw, hnc, hcm, hcs, htk⟩
      · cases hr; omega
      injection hr with e1 e2 e3
      subst e1; subst e3
      have hcn : ¬ c = n := by omega
      have hcut : cutAt (some ⟨g, 0, none⟩) c n size = some ⟨g, n * size, none⟩ := by
        unfold cutAt; rw [if_neg hcn]
        have hadd : (⟨g, 0, none⟩ : Addr).add (n * size) = ⟨g, n * size, none⟩ := by rw [add_plain]; simp
        simp [hadd]
      rw [hcut] at hx
      have hw' : w.heap[g]? = some (.cells cur.toList.toArray e (0, 0)) := by simpa using hw
      have hzl : (Builtin.zeroCells z.cells m).toList.length = m * size := by simp [Builtin.zeroCells, hzs']
      have hfit : n * size + m * size ≤ c * size := by rw [← Nat.add_mul]; exact Nat.mul_le_mul_right _ hm
      have hone : ∀ u ∈ (Builtin.zeroCells z.cells m).toList, u.oneCell' = true := fun u hu => by
        simp only [Builtin.zeroCells, Array.toList_map, List.mem_map] at hu
        obtain ⟨i, hi, rfl⟩ := hu
        have hlt : i % z.cells.size < z.cells.size := by
          apply Nat.mod_lt
          simp at hi
          rcases Nat.eq_zero_or_pos z.cells.size with h | h
          · rw [h] at hi; simp at hi
          · exact h
        have hz2 : ∀ u ∈ z.cells.toList, u.oneCell' = true := fun u hu => List.all_eq_true.1 hz1 u hu
        rw [getElem!_pos z.cells _ hlt]
        exact hz2 _ (by simp)
      obtain ⟨w', hrun, g1, g2, g3, g4, g5, cs2, g6, g7, g8⟩ := run_storeCells (P := C.P) (Builtin.zeroCells z.cells m).toList (n * size) 0 cur.toList w hw' (by rw [hzl]; simp [hcs]; omega) hone
      have hnew : (Ent.row (.slice (some ⟨g, 0, none⟩) n c) e size n xs).holds w' := by
        refine ⟨hlen, .inr ⟨g, c, cs2.toArray, rfl, hbase, g6, hnc, hcm, by simp [g7, hcs], ?_⟩⟩
        rw [← htk]
        apply List.ext_getElem?
        intro q
        rw [List.getElem?_take, List.getElem?_take]
        by_cases hqn : q < n * size
        · rw [if_pos hqn, if_pos hqn]
          rw [show (cs2.toArray.toList)[q]? = cs2[q]? from rfl, g8 q, if_neg (by omega)]
        · rw [if_neg hqn, if_neg hqn]
      obtain ⟨s', t'⟩ := hsat.swap (has_swap hh) g1 g2 g3 (by omega) (fun k _ hk => g5 k (fun e => hk (by rw [e]; rfl))) hnew (fun k hk => .inl hk)
      refine ⟨.tuple #[], w', I, δ, ?_, s', t', k⟩
      have hz : (C.P.info? e).map (·.zero) = some (some z) := by
        cases hq : C.P.info? e with
        | none => simp [hq] at hb
        | some inf => simp [hq] at hb; simp [hb.1]
      obtain ⟨m', rfl⟩ : ∃ m', m = m' + 1 := ⟨m - 1, by omega⟩
      simp [execOp, resolve, invoke, builtin, Builtin.clear_, he.ev hx, hu, run_zero hz, hrun])

/-- so many nothings behind nil -/
theorem o_appendMake {t tn e : TypeId} {kn : IntKind} {z : Value} {size bytes n : Nat} {s x : Operand} (ht : C.P.underlying t = some (.slice e)) (htn : C.P.underlying tn = some (.int kn)) (hb : (C.P.info? e).map (fun i => (i.zero, i.size, i.bytes)) = some (some z, size, bytes)) (hzs : Nat.beq z.cells.size size = true)
    (hs : evS σ s = some (.slice none 0 0)) (hx : evS σ x = some (.int .i64 (n : Int))) (hd : Nat.blt d C.n = true) (hn : 0 < n) (hbd : n ≤ 4398046511104) (hby : n * bytes ≤ 140737488355328) (hbp : 0 < bytes) (hsz : 0 < size)
    (k : ∀ g c, n ≤ c → OpsJ C ops Q rest ((d, .slice (some ⟨g, 0, none⟩) n c) :: σ) ds I (.row (.slice (some ⟨g, 0, none⟩) 0 c) e size 0 [] :: δ)) :
    OpsJ C ops Q ({ dst := some d, op := .call { callee := .builtin .append, args := #[s, x], argTypes := #[t, tn] }, type := ty, pos := pos, after := after, guard := none } :: rest) σ ds I δ :=
  op_step rfl rfl hd (by intro c hc; cases hc) (fun a w he hsat => by
    cases hq : C.P.info? e with
    | none => simp [hq] at hb
    | some inf =>
      simp [hq] at hb
      obtain ⟨hb1, hb2, hb3⟩ := hb
      have hzs' : z.cells.size = size := Nat.eq_of_beq_eq_true hzs
      have hn0 : n ≠ 0 := by omega
      have hnn : ¬ ((n : Int) < 0) := by omega
      have hw : IntKind.i64.wrap (n : Int) = n := wrap_id (by omega)
      have h63' : ¬ (9223372036854775807 < (n : Int)) := by omega
      have hby2 : ¬ (281474976710656 < (n : Int) * (inf.bytes : Int)) := by rw [hb3]; have : ((n * bytes : Nat) : Int) = (n : Int) * (bytes : Int) := Int.natCast_mul _ _; omega
      have h48' : ¬ (281474976710656 < Builtin.nextslicecap n 0 * inf.bytes) := by rw [nextslicecap_zero hn, hb3]; omega
      have hs0 : ¬ (n * inf.size = 0) := by rw [hb2]; exact Nat.ne_of_gt (Nat.mul_pos hn hsz)
      have hr : (Builtin.append_ #[t, tn] ty #[.slice none 0 0, .int .i64 (n : Int)]).run C.P w =
          .ok (.slice (some ⟨w.heap.size, 0, none⟩) n (grownCap w n 0 e)) (w.drew.alloc (.cells (Builtin.zeroCells z.cells n ++ Builtin.zeroCells z.cells (grownCap w n 0 e - n)) e)) := by
        simp [Builtin.append_, run_underlying ht, run_underlying htn, sizeOf, typeInfo, zeroValue, hq, hb1, asInt, asIntOf, hw, hnn, hby2, hn0, h63', h48', Question.forced, newRow, grownCap, hs0, run_firstCells_none]
      have hge := grownCap_ge w n 0 e
      have hcm : grownCap w n 0 e ≤ maxLen := grownCap_le_maxLen w n 0 e (by simp only [maxLen]; omega)
      obtain ⟨s0, t0⟩ := hsat.drew
      have hnew : (Ent.row (.slice (some ⟨w.heap.size, 0, none⟩) 0 (grownCap w n 0 e)) e size 0 []).holds (w.drew.alloc (.cells (Builtin.zeroCells z.cells n ++ Builtin.zeroCells z.cells (grownCap w n 0 e - n)) e)) := by
        refine ⟨by simp, .inr ⟨w.heap.size, _, _, rfl, Nat.zero_le _, heap_alloc_new w.drew _, Nat.zero_le _, hcm, ?_, by simp⟩⟩
        simp only [Array.size_append, size_zeroCells, hzs', ← Nat.add_mul]
        congr 1; omega
      obtain ⟨s', t'⟩ := s0.alloc (.row (.slice (some ⟨w.heap.size, 0, none⟩) 0 (grownCap w n 0 e)) e size 0 []) _ rfl hnew
      refine ⟨_, _, _, _, ?_, s', t0.trans t', k w.heap.size (grownCap w n 0 e) hge⟩
      simp [execOp, resolve, invoke, builtin, he.ev hs, he.ev hx, hr])
end Go.Proofs.Ytegceppoioeeaaa.Lg
/- Walks: some term among others; rows without others. -/
set_option linter.unusedVariables false
set_option linter.unusedSimpArgs false
namespace Go.Proofs.Ytegceppoioeeaaa
open Go Lg

def idxQ {α : Type} (p : α → Bool) : List α → Int
  | [] => -1
  | s :: r => if p s then 0 else if idxQ p r < 0 then -1 else idxQ p r + 1
theorem idxQ_none {α : Type} (p : α → Bool) : ∀ gs : List α, gs.any p = false → idxQ p gs = -1
  | [], _ => rfl
  | s :: r, h => by simp only [List.any_cons, Bool.or_eq_false_iff] at h; simp [idxQ, h.1, idxQ_none p r h.2]
theorem idxQ_hit {α : Type} (p : α → Bool) : ∀ (gs : List α) (k : Nat) (h : k < gs.length), (gs.take k).any p = false → p gs[k] = true → idxQ p gs = k
  | s :: r, 0, _, _, hk => by simp at hk; simp [idxQ, hk]
  | s :: r, k + 1, h, hp, hk => by
    simp only [List.take_succ_cons, List.any_cons, Bool.or_eq_false_iff] at hp
    have := idxQ_hit p r k (by simpa using h) hp.2 (by simpa using hk)
    simp only [idxQ, hp.1, Bool.false_eq_true, if_false, this]
    rw [if_neg (by omega)]; omega
theorem idxQ_any {α : Type} (p : α → Bool) : ∀ gs : List α, (0 ≤ idxQ p gs ↔ gs.any p = true) ∧ -1 ≤ idxQ p gs
  | [] => by simp [idxQ]
  | s :: r => by
    obtain ⟨h1, h2⟩ := idxQ_any p r
    simp only [idxQ, List.any_cons, Bool.or_eq_true, ← h1]
    by_cases h : p s = true
    · simp [h]
    · simp only [h, Bool.false_eq_true, if_false, false_or]; split <;> omega
theorem any_take_q {α : Type} {p : α → Bool} {gs : List α} {k : Nat} (h : k < gs.length) (hp : (gs.take k).any p = false) (hk : p gs[k] = false) : (gs.take (k + 1)).any p = false := by
  rw [List.take_succ_eq_append_getElem h, List.any_append, hp]; simp [hk]
theorem ld_pair {cs : List Value} {o : Nat} {x y : Value} (h : cs[o]? = some x) (k : cs[o + 1]? = some y) : ld true 2 (cs.drop o) = some (.agg #[x, y]) := by
  obtain ⟨hl, rfl⟩ := List.getElem?_eq_some_iff.1 h
  obtain ⟨hl2, rfl⟩ := List.getElem?_eq_some_iff.1 k
  rw [List.drop_eq_getElem_cons hl, List.drop_eq_getElem_cons hl2]; rfl
theorem RepS.shape {I : Imm} {v : Value} {ts : List T} (h : RepS I v ts) : ∃ ad c, v = .slice ad ts.length c := by
  obtain ⟨ad, c, ss, ts, _, _, _, _, _⟩ := h; exact ⟨ad, c, rfl⟩

theorem IdxT_does {I : Imm} {v fv : Value} {ts : List T} {δf : List Ent} {p : T → Bool} (hv : RepS I v ts) (hf : ∀ J u t, I.le J → RepT J u t → t ∈ ts → FDoes Try.prog fv [u] J δf (fun v _ δ' => v = .bool (p t) ∧ δ' = δf)) :
    Does Try.prog 97 [v, fv] I δf (fun v _ δ' => v = .int .i64 (idxQ p ts) ∧ δ' = δf) := by
  obtain ⟨ad, c, ss, ts, hc, hb, hat, hr, hsub0⟩ := hv
  have hsub : ∀ i (h : i < ts.length), RepT I (.agg #[.int .i64 ts[i].head, .slice (ss i).1 ts[i].args.length (ss i).2]) ts[i] := fun i hi => RepT.mk _ _ (hr i hi) (hsub0 i hi)
  refine Does.intro Try.func97 rfl Try.ntmps97 rfl fun w0 => ?_
  refine code_seq ?_
  refine code_region ?_
  refine op_v (v_assign rfl) rfl ?_
  refine ops_nil ?_
  refine post_next ?_
  refine code_seq ?_
  refine code_seq ?_
  refine code_region ?_
  refine op_v (v_move rfl) rfl ?_
  refine op_v (v_len Try.underlying23 rfl) rfl ?_
  refine op_v (v_move rfl) rfl ?_
  refine ops_nil ?_
  refine post_next ?_
  refine code_block ?_
  refine code_loop (fun m σ' I' δ' => ∃ k : Nat, m = ts.length - k ∧ k ≤ ts.length ∧ σ' = [(0, .slice ad ts.length c), (1, fv), (7, .int .i64 ts.length), (8, .int .i64 k)] ∧ I.le I' ∧ δ' = δf ∧ (ts.take k).any p = false) ts.length [(0, .slice ad ts.length c), (1, fv), (7, .int .i64 ts.length), (8, .int .i64 (0 : Nat))] ⟨0, rfl, Nat.zero_le _, rfl, Imm.le_refl _, rfl, rfl⟩ ⟨rfl, rfl, rfl, rfl, trivial⟩ ?_
  rintro m _ I0 _ ⟨k, rfl, hk, rfl, hI0, rfl, hp⟩
  refine code_seq ?_
  refine code_region ?_
  first | refine op_v (v_cmpt rfl rfl rfl (by first | omega | (simp; done) | (simp; omega))) rfl ?_ | refine op_v (v_cmpf rfl rfl rfl (by first | omega | (simp; done) | (simp; omega))) rfl ?_ | refine op_v (v_cmp rfl rfl rfl) rfl ?_
  refine ops_nil ?_
  refine post_next ?_
  refine code_seq ?_
  refine code_cond rfl (fun hc0 => ?_) (fun hc0 => ?_)
  · have hlt : k < ts.length := by simpa using hc0
    have hs1 := (hat k hlt).isSome
    refine code_skip ?_
    refine post_next ?_
    refine code_seq ?_
    refine code_block ?_
    refine code_seq ?_
    refine code_region ?_
    refine op_v (v_move rfl) rfl ?_
    refine op_v (v_assign rfl) rfl ?_
    refine ops_nil ?_
    refine post_next ?_
    refine code_seq ?_
    refine code_region ?_
    refine op_v (v_move rfl) rfl ?_
    refine op_v (v_move rfl) rfl ?_
    refine op_v (v_move rfl) rfl ?_
    first | refine op_v (v_index Try.underlying23 sz25 rfl rfl (by omega) (by assumption)) rfl ?_ | refine op_v (v_indexI Try.underlying23 sz25 rfl rfl (by first | omega | (simp; done) | (simp; omega)) (by first | omega | (simp; done) | (simp; omega)) (by assumption)) rfl ?_
    first | refine op_v (v_loadI0 ty25 ((hat k hlt).mono hI0) rfl rfl rfl) rfl ?_ | refine op_v (v_loadI ty25 ((hat k hlt).mono hI0) rfl rfl rfl) rfl ?_
    refine op_fcall rfl rfl rfl ((hf _ _ ts[k] hI0 ((hsub k hlt).mono hI0) (List.getElem_mem _))) Parts.all ?_
    rintro v16 I16 _ hI16 ⟨rfl, rfl⟩
    rw [List.append_nil]
    refine ops_nil ?_
    refine post_next ?_
    refine code_cond rfl (fun hc1 => ?_) (fun hc1 => ?_)
    · refine code_seq ?_
      refine code_region ?_
      refine op_v (v_move rfl) rfl ?_
      refine op_v (v_assign rfl) rfl ?_
      refine ops_nil ?_
      refine post_next ?_
      refine code_ret ?_
      refine post_ret_block ?_
      refine post_ret_then ?_
      refine post_ret_then ?_
      refine post_ret_block ?_
      refine post_ret_then ?_
      refine post_ret (rs := [.tmp 4]) rfl (List.Perm.refl _) (.cons (.tmp rfl) .nil) (List.Sublist.refl _) ?_
      exact ⟨by rw [idxQ_hit p ts k hlt hp hc1]; rfl, rfl⟩
    · refine code_skip ?_
      refine post_out ?_
      refine post_next ?_
      refine code_region ?_
      first | refine op_v (v_addb rfl rfl rfl (by omega)) rfl ?_ | refine op_v (v_add rfl rfl) rfl ?_
      refine op_v (v_move rfl) rfl ?_
      refine ops_nil ?_
      refine post_again (ts.length - (k + 1)) [(0, .slice ad ts.length c), (1, fv), (7, .int .i64 ts.length), (8, .int .i64 (k + 1 : Nat))] (by omega) ⟨k + 1, rfl, hlt, rfl, Imm.le_trans hI0 hI16, rfl, any_take_q hlt hp hc1⟩ ⟨rfl, rfl, rfl, rfl, trivial⟩
  · have hge : k = ts.length := by simp at hc0; omega
    subst hge
    rw [List.take_length] at hp
    refine code_exit ?_
    refine post_exit_then ?_
    refine post_exit_then ?_
    refine post_exit ?_
    refine post_next ?_
    refine code_seq ?_
    refine code_region ?_
    refine op_v (v_assign rfl) rfl ?_
    refine ops_nil ?_
    refine post_next ?_
    refine code_ret ?_
    refine post_ret (rs := [.tmp 4]) rfl (List.Perm.refl _) (.cons (.tmp rfl) .nil) (List.Sublist.refl _) ?_
    exact ⟨by rw [idxQ_none p ts hp]; rfl, rfl⟩
theorem ContT_does {I : Imm} {v fv : Value} {ts : List T} {δf : List Ent} {p : T → Bool} (hv : RepS I v ts) (hf : ∀ J u t, I.le J → RepT J u t → t ∈ ts → FDoes Try.prog fv [u] J δf (fun v _ δ' => v = .bool (p t) ∧ δ' = δf)) :
    Does Try.prog 101 [v, fv] I δf (fun v _ δ' => v = .bool (ts.any p) ∧ δ' = δf) := by
  refine Does.intro Try.func101 rfl Try.ntmps101 rfl fun w0 => ?_
  refine code_seq ?_
  refine code_region ?_
  refine op_v (v_assign rfl) rfl ?_
  refine ops_nil ?_
  refine post_next ?_
  refine code_seq ?_
  refine code_region ?_
  refine op_v (v_move rfl) rfl ?_
  refine op_v (v_move rfl) rfl ?_
  refine op_call pl97 rfl rfl ((IdxT_does hv hf)) Parts.all ?_
  rintro v7 I7 _ hI7 ⟨rfl, rfl⟩
  rw [List.append_nil]
  first | refine op_v (v_cmpt rfl rfl rfl (by first | omega | (simp; done) | (simp; omega))) rfl ?_ | refine op_v (v_cmpf rfl rfl rfl (by first | omega | (simp; done) | (simp; omega))) rfl ?_ | refine op_v (v_cmp rfl rfl rfl) rfl ?_
  refine op_v (v_assign rfl) rfl ?_
  refine ops_nil ?_
  refine post_next ?_
  refine code_ret ?_
  refine post_ret (rs := [.tmp 4]) rfl (List.Perm.refl _) (.cons (.tmp rfl) .nil) (List.Sublist.refl _) ?_
  exact ⟨bool_b (by have := (idxQ_any p ts).1; cases h : ts.any p <;> simp_all), rfl⟩
/-- in a row of one's own -/
abbrev tRow (A : Option Addr) (c n : Nat) (xs : List Value) : Ent := .row (.slice A n c) 25 2 n xs
theorem IdxR_does {I : Imm} {fv : Value} {ts : List T} {A : Option Addr} {c : Nat} {xs : List Value} {δf : List Ent} {p : T → Bool} (hx : RowT I xs ts) (hb : ts.length ≤ 4398046511104) (hf : ∀ J u t, I.le J → RepT J u t → t ∈ ts → FDoes Try.prog fv [u] J (tRow A c ts.length xs :: δf) (fun v _ δ' => v = .bool (p t) ∧ δ' = tRow A c ts.length xs :: δf)) :
    Does Try.prog 97 [.slice A ts.length c, fv] I (tRow A c ts.length xs :: δf) (fun v _ δ' => v = .int .i64 (idxQ p ts) ∧ δ' = tRow A c ts.length xs :: δf) := by
  refine Does.intro Try.func97 rfl Try.ntmps97 rfl fun w0 => ?_
  refine code_seq ?_
  refine code_region ?_
  refine op_v (v_assign rfl) rfl ?_
  refine ops_nil ?_
  refine post_next ?_
  refine code_seq ?_
  refine code_seq ?_
  refine code_region ?_
  refine op_v (v_move rfl) rfl ?_
  refine op_v (v_len Try.underlying23 rfl) rfl ?_
  refine op_v (v_move rfl) rfl ?_
  refine ops_nil ?_
  refine post_next ?_
  refine code_block ?_
  refine code_loop (fun m σ' I' δ' => ∃ k : Nat, m = ts.length - k ∧ k ≤ ts.length ∧ σ' = [(0, .slice A ts.length c), (1, fv), (7, .int .i64 ts.length), (8, .int .i64 k)] ∧ I.le I' ∧ δ' = tRow A c ts.length xs :: δf ∧ (ts.take k).any p = false) ts.length [(0, .slice A ts.length c), (1, fv), (7, .int .i64 ts.length), (8, .int .i64 (0 : Nat))] ⟨0, rfl, Nat.zero_le _, rfl, Imm.le_refl _, rfl, rfl⟩ ⟨rfl, rfl, rfl, rfl, trivial⟩ ?_
  rintro m _ I0 _ ⟨k, rfl, hk, rfl, hI0, rfl, hp⟩
  refine code_seq ?_
  refine code_region ?_
  first | refine op_v (v_cmpt rfl rfl rfl (by first | omega | (simp; done) | (simp; omega))) rfl ?_ | refine op_v (v_cmpf rfl rfl rfl (by first | omega | (simp; done) | (simp; omega))) rfl ?_ | refine op_v (v_cmp rfl rfl rfl) rfl ?_
  refine ops_nil ?_
  refine post_next ?_
  refine code_seq ?_
  refine code_cond rfl (fun hc0 => ?_) (fun hc0 => ?_)
  · have hlt : k < ts.length := by simpa using hc0
    obtain ⟨s, hs1, hs2, hs3⟩ := hx.2 k hlt
    refine code_skip ?_
    refine post_next ?_
    refine code_seq ?_
    refine code_block ?_
    refine code_seq ?_
    refine code_region ?_
    refine op_v (v_move rfl) rfl ?_
    refine op_v (v_assign rfl) rfl ?_
    refine ops_nil ?_
    refine post_next ?_
    refine code_seq ?_
    refine code_region ?_
    refine OpsJ.rowSome Has.here (by omega) (fun hA hcr => ?_)
    refine op_v (v_move rfl) rfl ?_
    refine op_v (v_move rfl) rfl ?_
    refine op_v (v_move rfl) rfl ?_
    refine op_v (v_index Try.underlying23 sz25 rfl rfl hlt hA) rfl ?_
    refine op_v (v_loadRow ty25 rfl Has.here hA (ld_pair hs1 hs2)) rfl ?_
    refine op_fcall rfl rfl rfl ((hf _ _ ts[k] hI0 (hs3.mono hI0) (List.getElem_mem _))) Parts.all ?_
    rintro v16 I16 _ hI16 ⟨rfl, rfl⟩
    rw [List.append_nil]
    refine ops_nil ?_
    refine post_next ?_
    refine code_cond rfl (fun hc1 => ?_) (fun hc1 => ?_)
    · refine code_seq ?_
      refine code_region ?_
      refine op_v (v_move rfl) rfl ?_
      refine op_v (v_assign rfl) rfl ?_
      refine ops_nil ?_
      refine post_next ?_
      refine code_ret ?_
      refine post_ret_block ?_
      refine post_ret_then ?_
      refine post_ret_then ?_
      refine post_ret_block ?_
      refine post_ret_then ?_
      refine post_ret (rs := [.tmp 4]) rfl (List.Perm.refl _) (.cons (.tmp rfl) .nil) (List.Sublist.refl _) ?_
      exact ⟨by rw [idxQ_hit p ts k hlt hp hc1]; rfl, rfl⟩
    · refine code_skip ?_
      refine post_out ?_
      refine post_next ?_
      refine code_region ?_
      first | refine op_v (v_addb rfl rfl rfl (by omega)) rfl ?_ | refine op_v (v_add rfl rfl) rfl ?_
      refine op_v (v_move rfl) rfl ?_
      refine ops_nil ?_
      refine post_again (ts.length - (k + 1)) [(0, .slice A ts.length c), (1, fv), (7, .int .i64 ts.length), (8, .int .i64 (k + 1 : Nat))] (by omega) ⟨k + 1, rfl, hlt, rfl, Imm.le_trans hI0 hI16, rfl, any_take_q hlt hp hc1⟩ ⟨rfl, rfl, rfl, rfl, trivial⟩
  · have hge : k = ts.length := by simp at hc0; omega
    have hp2 : ts.any p = false := by rw [hge, List.take_length] at hp; exact hp
    refine code_exit ?_
    refine post_exit_then ?_
    refine post_exit_then ?_
    refine post_exit ?_
    refine post_next ?_
    refine code_seq ?_
    refine code_region ?_
    refine op_v (v_assign rfl) rfl ?_
    refine ops_nil ?_
    refine post_next ?_
    refine code_ret ?_
    refine post_ret (rs := [.tmp 4]) rfl (List.Perm.refl _) (.cons (.tmp rfl) .nil) (List.Sublist.refl _) ?_
    exact ⟨by rw [idxQ_none p ts hp2]; rfl, rfl⟩
theorem Delete_does {I : Imm} {n i c : Nat} {A : Option Addr} {xs : List Value} (hi : i < n) (hb : n ≤ 4398046511104) (h1 : ∀ u ∈ xs, u.oneCell' = true) :
    Does Try.prog 99 [.slice A n c, .int .i64 i, .int .i64 ((i : Int) + 1)] I [tRow A c n xs] (fun v _ δ' => v = .slice A (n - 1) c ∧ δ' = [tRow A c (n - 1) (xs.take (i * 2) ++ (xs.drop ((i + 1) * 2)).take ((n - (i + 1)) * 2))]) := by
  have e1 : (i : Int) + 1 = ((i + 1 : Nat) : Int) := by omega
  have e2 : i + (n - (i + 1)) = n - 1 := by omega
  rw [e1]
  refine Does.intro Try.func99 rfl Try.ntmps99 rfl fun w0 => ?_
  refine code_seq ?_
  refine code_region ?_
  refine op_v (v_assign rfl) rfl ?_
  refine ops_nil ?_
  refine post_next ?_
  refine code_seq ?_
  refine code_region ?_
  refine OpsJ.rowSome Has.here (by omega) (fun hA hcr => ?_)
  refine op_v (v_move rfl) rfl ?_
  refine op_v (v_move rfl) rfl ?_
  refine op_v (v_move rfl) rfl ?_
  refine op_v (v_move rfl) rfl ?_
  refine op_v (v_len Try.underlying23 rfl) rfl ?_
  refine op_v (v_slice3 Try.underlying23 sz25 rfl rfl rfl rfl (by omega) (by omega) (by omega)) rfl ?_
  refine ops_nil ?_
  refine post_next ?_
  refine code_seq ?_
  refine code_seq ?_
  refine code_region ?_
  refine op_v (v_move rfl) rfl ?_
  refine op_v (v_move rfl) rfl ?_
  refine op_v (v_cmpf rfl rfl rfl (by omega)) rfl ?_
  refine ops_nil ?_
  refine post_next ?_
  refine code_cond_f rfl ?_
  refine code_skip ?_
  refine post_next ?_
  refine code_seq ?_
  refine code_region ?_
  refine op_v (v_move rfl) rfl ?_
  refine op_v (v_len Try.underlying23 rfl) rfl ?_
  refine op_v (v_assign rfl) rfl ?_
  refine ops_nil ?_
  refine post_next ?_
  refine code_seq ?_
  refine code_draw (.fl 0 (.fl 1 (.fl 2 (.fl 3 (.fl 4 (.fl 5 (.ef 6 (.ef 7 .done)))))))) (fun _ => []) mixed (by kernel_rfl) (by kernel_rfl) (fun _ => (List.nil_sublist _)) ?_
  refine e_float rfl rfl (fun hs_ => PF.mk rfl (v_move rfl) hs_) (by repeat (first | exact Imm.le_refl _ | assumption | refine Imm.le_trans ?_ (by assumption))) (by intro x hx; cases hx) ?_
  refine e_float rfl rfl (fun hs_ => PF.mk rfl (v_move rfl) hs_) (by repeat (first | exact Imm.le_refl _ | assumption | refine Imm.le_trans ?_ (by assumption))) (by intro x hx; cases hx) ?_
  refine e_float rfl rfl (fun hs_ => PF.mk rfl (v_sliceTo Try.underlying23 sz25 rfl rfl (by omega)) hs_) (by repeat (first | exact Imm.le_refl _ | assumption | refine Imm.le_trans ?_ (by assumption))) (by intro x hx; cases hx) ?_
  refine e_float rfl rfl (fun hs_ => PF.mk rfl (v_move rfl) hs_) (by repeat (first | exact Imm.le_refl _ | assumption | refine Imm.le_trans ?_ (by assumption))) (by intro x hx; cases hx) ?_
  refine e_float rfl rfl (fun hs_ => PF.mk rfl (v_move rfl) hs_) (by repeat (first | exact Imm.le_refl _ | assumption | refine Imm.le_trans ?_ (by assumption))) (by intro x hx; cases hx) ?_
  refine e_float rfl rfl (fun hs_ => PF.mk rfl (v_sliceFrom Try.underlying23 sz25 rfl rfl (by omega) (by omega)) hs_) (by repeat (first | exact Imm.le_refl _ | assumption | refine Imm.le_trans ?_ (by assumption))) (by intro x hx; cases hx) ?_
  refine e_eff rfl (by intro cs b hc; cases hc) (by intro c hc; cases hc) ?_
  refine o_appendSelf Try.underlying23 bs25 rfl rfl rfl Swap.here (by omega) (by omega) (by omega) h1 hb (by omega) hA ?_
  refine ops_nil ?_
  refine e_next rfl (side_all (by repeat (first | exact Imm.le_refl _ | assumption | refine Imm.le_trans ?_ (by assumption))) (fun _ => (by intro x hx; cases hx))) ?_
  refine e_eff rfl (by intro cs b hc; cases hc) (by intro c hc; cases hc) ?_
  refine op_v (v_assign rfl) rfl ?_
  refine ops_nil ?_
  refine e_next rfl (side_nil (by kernel_rfl)) ?_
  refine e_done ?_
  refine post_next ?_
  refine code_seq ?_
  refine code_region ?_
  rw [e2]
  refine op_v (v_move rfl) rfl ?_
  refine op_v (v_move rfl) rfl ?_
  refine op_v (v_len Try.underlying23 rfl) rfl ?_
  refine op_v (v_move rfl) rfl ?_
  refine op_v (v_slice2 Try.underlying23 sz25 rfl rfl rfl (by omega) (by omega)) rfl ?_
  refine o_clear Try.underlying23 (by kernel_rfl) (z := .agg #[.int .i64 0, .slice none 0 0]) (by rfl) (by rfl) rfl Has.here (by omega) ?_
  refine ops_nil ?_
  refine post_next ?_
  refine code_seq ?_
  refine code_region ?_
  refine op_v (v_move rfl) rfl ?_
  refine op_v (v_assign rfl) rfl ?_
  refine ops_nil ?_
  refine post_next ?_
  refine code_ret ?_
  refine post_ret (rs := [.tmp 6]) rfl (List.Perm.refl _) (.cons (.tmp rfl) .nil) (List.Sublist.refl _) ?_
  exact ⟨rfl, rfl⟩
end Go.Proofs.Ytegceppoioeeaaa
/- Walks: rows without others; which row is over another one. -/
set_option linter.unusedVariables false
set_option linter.unusedSimpArgs false
namespace Go.Proofs.Ytegceppoioeeaaa
open Go Lg

theorem RowT.one1 {I : Imm} {xs : List Value} {ts : List T} (h : RowT I xs ts) : ∀ u ∈ xs, u.oneCell' = true := fun u hu => by
  obtain ⟨j, hj, rfl⟩ := List.getElem_of_mem hu
  have hl := h.1
  obtain ⟨s, h1, h2, _⟩ := h.2 (j / 2) (by omega)
  rcases Nat.mod_two_eq_zero_or_one j with e | e
  · have ej : j / 2 * 2 = j := by omega
    rw [ej, List.getElem?_eq_getElem hj] at h1
    rw [Option.some.inj h1]; rfl
  · have ej : j / 2 * 2 + 1 = j := by omega
    rw [ej, List.getElem?_eq_getElem hj] at h2
    rw [Option.some.inj h2]; rfl
theorem RowT.del {I : Imm} {xs : List Value} {ts : List T} {i : Nat} (h : RowT I xs ts) (hi : i < ts.length) : RowT I (xs.take (i * 2) ++ (xs.drop ((i + 1) * 2)).take ((ts.length - (i + 1)) * 2)) (ts.eraseIdx i) := by
  have hl := h.1
  have e : ts.eraseIdx i = ts.take i ++ ts.drop (i + 1) := List.eraseIdx_eq_take_drop_succ ..
  rw [e]
  refine RowT.app ⟨by rw [List.length_take, List.length_take]; omega, fun j hj => ?_⟩ ⟨by rw [List.length_take, List.length_drop, List.length_drop]; omega, fun j hj => ?_⟩
  · have hj' : j < i := by rw [List.length_take] at hj; omega
    obtain ⟨s, h1, h2, h3⟩ := h.2 j (by omega)
    have e2 : (ts.take i)[j] = ts[j]'(by omega) := List.getElem_take
    rw [e2]
    exact ⟨s, by rw [List.getElem?_take_of_lt (by omega)]; exact h1, by rw [List.getElem?_take_of_lt (by omega)]; exact h2, h3⟩
  · have hj' : j < ts.length - (i + 1) := by rw [List.length_drop] at hj; exact hj
    obtain ⟨s, h1, h2, h3⟩ := h.2 (i + 1 + j) (by omega)
    have e2 : (ts.drop (i + 1))[j] = ts[i + 1 + j]'(by omega) := List.getElem_drop
    rw [e2]
    exact ⟨s, by rw [List.getElem?_take_of_lt (by omega), List.getElem?_drop, show (i + 1) * 2 + j * 2 = (i + 1 + j) * 2 by omega]; exact h1, by rw [List.getElem?_take_of_lt (by omega), List.getElem?_drop, show (i + 1) * 2 + (j * 2 + 1) = (i + 1 + j) * 2 + 1 by omega]; exact h2, h3⟩
theorem idxQ_erase (t : T) : ∀ (l : List T), t ∈ l → ∃ i : Nat, idxQ (fun u => decide (t = u)) l = i ∧ i < l.length ∧ l.eraseIdx i = l.erase t
  | [], h => by cases h
  | x :: r, h => by
    by_cases e : t = x
    · subst e; exact ⟨0, by simp [idxQ], by simp, by simp⟩
    · have hr : t ∈ r := by rcases List.mem_cons.1 h with h | h; exact absurd h e; exact h
      obtain ⟨i, h1, h2, h3⟩ := idxQ_erase t r hr
      have e2 : (x == t) = false := by simp; exact fun h => e h.symm
      refine ⟨i + 1, ?_, by simp; omega, ?_⟩
      · simp only [idxQ, h1]
        rw [if_neg (by simpa using e), if_neg (by omega)]; omega
      · rw [List.eraseIdx_cons_succ, List.erase_cons, e2, h3]; rfl
theorem idxQ_not (t : T) (l : List T) (h : t ∉ l) : idxQ (fun u => decide (t = u)) l = -1 :=
  idxQ_none _ l (by rw [List.any_eq_false]; intro x hx; simp; exact fun e => h (e ▸ hx))

theorem rest1_does {I : Imm} {b : Nat} {v : Value} {t u : T} {ta : Option Addr} {tc : Nat} {X : Ent} (hv : RepT I v u) (ht : RepT I (.agg #[.int .i64 t.head, .slice ta t.args.length tc]) t) (hbu : u.size ≤ 1000000000) (hbt : t.size ≤ 1000000000) :
    Does Try.prog 98 [v, .pointer (some ⟨b, 0, none⟩)] I [X, .box b 25 [.int .i64 t.head, .slice ta t.args.length tc]] (fun v _ δ' => v = .bool (decide (t = u)) ∧ δ' = [X, .box b 25 [.int .i64 t.head, .slice ta t.args.length tc]]) := by
  obtain ⟨ua, uc, rfl, _⟩ := hv.shape
  refine Does.intro Try.func98 rfl Try.ntmps98 rfl fun w0 => ?_
  refine code_seq ?_
  refine code_region ?_
  refine o_box rfl rfl rfl (fun b2 => ?_)
  refine op_v (v_assign rfl) rfl ?_
  refine ops_nil ?_
  refine post_next ?_
  refine code_seq ?_
  refine code_region ?_
  refine op_v (v_load ty25 rfl (Has.there (Has.there Has.here)) rfl) rfl ?_
  refine op_v (v_load ty25 rfl Has.here rfl) rfl ?_
  refine op_call pl39 rfl rfl ((TSame_does ht hv hbt hbu)) Parts.none ?_
  rintro v6 I6 _ hI6 ⟨rfl, rfl⟩
  refine op_v (v_assign rfl) rfl ?_
  refine ops_nil ?_
  refine post_next ?_
  refine code_ret ?_
  refine post_ret (rs := [.tmp 3]) rfl (List.Perm.refl _) (.cons (.tmp rfl) .nil) (List.sublist_cons_self _ _) ?_
  exact ⟨rfl, rfl⟩
theorem rest_does {I : Imm} {va vb : Value} {a b : List T} (ha : RepS I va a) (hb : RepS I vb b) (hsa : ∀ t ∈ a, t.size ≤ 1000000000) (hsb : ∀ t ∈ b, t.size ≤ 1000000000) (hla : a.length ≤ 1000000) (hlb : b.length ≤ 1000000) :
    Does Try.prog 69 [va, vb] I [] (fun v I' δ' => RepS I' v (rsL a b) ∧ δ' = []) := by
  obtain ⟨ad, ac, ssa, a, hca, hba, hata, hra, hsuba0⟩ := ha
  obtain ⟨bd, bc, ssb, b, hcb, hbb, hatb, hrb, hsubb0⟩ := hb
  have hsuba : ∀ i (h : i < a.length), RepT I (.agg #[.int .i64 a[i].head, .slice (ssa i).1 a[i].args.length (ssa i).2]) a[i] := fun i hi => RepT.mk _ _ (hra i hi) (hsuba0 i hi)
  have hsubb : ∀ i (h : i < b.length), RepT I (.agg #[.int .i64 b[i].head, .slice (ssb i).1 b[i].args.length (ssb i).2]) b[i] := fun i hi => RepT.mk _ _ (hrb i hi) (hsubb0 i hi)
  obtain ⟨hcells, hrow⟩ := RowT.of hatb hsubb
  refine Does.intro Try.func69 rfl Try.ntmps69 rfl fun w0 => ?_
  refine code_seq ?_
  refine code_region ?_
  refine op_v (v_assign rfl) rfl ?_
  refine ops_nil ?_
  refine post_next ?_
  refine code_seq ?_
  refine code_region ?_
  refine op_v (v_move rfl) rfl ?_
  refine op_call pl77 rfl rfl ((Clone_does I hcells hrow.1 hrow.one1 hbb)) Parts.none ?_
  rintro v11 I11 _ hI11 ⟨la, lc, rfl, rfl⟩
  refine op_v (v_assign rfl) rfl ?_
  refine ops_nil ?_
  refine post_next ?_
  refine code_seq ?_
  refine code_region ?_
  refine op_v (v_assign rfl) rfl ?_
  refine ops_nil ?_
  refine post_next ?_
  refine code_seq ?_
  refine code_seq ?_
  refine code_region ?_
  refine op_v (v_move rfl) rfl ?_
  refine op_v (v_len Try.underlying23 rfl) rfl ?_
  refine op_v (v_move rfl) rfl ?_
  refine ops_nil ?_
  refine post_next ?_
  refine code_block ?_
  refine CodeJ.view (View.nilRow 25 2) ?_
  refine code_loop (fun m σ' I' δ' => ∃ (k : Nat) (L O : List T) (A B : Option Addr) (c e : Nat) (xs ys : List Value), m = a.length - k ∧ k ≤ a.length ∧ σ' = [(5, .slice A L.length c), (6, .slice B O.length e), (12, .slice ad a.length ac), (13, .int .i64 a.length), (14, .int .i64 k)] ∧ I.le I' ∧ δ' = [tRow B e O.length ys, tRow A c L.length xs] ∧ RowT I' xs L ∧ RowT I' ys O ∧ rsL a b = O ++ rsL (a.drop k) L ∧ O.length ≤ k ∧ L.length ≤ b.length ∧ (∀ t ∈ L, t ∈ b)) a.length [(5, .slice la b.length lc), (6, .slice none 0 0), (12, .slice ad a.length ac), (13, .int .i64 a.length), (14, .int .i64 (0 : Nat))] ⟨0, b, [], la, none, lc, 0, _, [], rfl, Nat.zero_le _, rfl, hI11, rfl, hrow.mono hI11, RowT.nil _, rfl, Nat.zero_le _, Nat.le_refl _, fun _ h => h⟩ ⟨rfl, rfl, rfl, rfl, rfl, trivial⟩ ?_
  rintro m _ I0 _ ⟨k, L, O, A, B, c, e, xs, ys, rfl, hk, rfl, hI0, rfl, hx, hy, hst, hO, hL, hLb⟩
  refine code_seq ?_
  refine code_region ?_
  first | refine op_v (v_cmpt rfl rfl rfl (by first | omega | (simp; done) | (simp; omega))) rfl ?_ | refine op_v (v_cmpf rfl rfl rfl (by first | omega | (simp; done) | (simp; omega))) rfl ?_ | refine op_v (v_cmp rfl rfl rfl) rfl ?_
  refine ops_nil ?_
  refine post_next ?_
  refine code_seq ?_
  refine code_cond rfl (fun hc0 => ?_) (fun hc0 => ?_)
  · have hlt : k < a.length := by simpa using hc0
    have hs1 := (hata k hlt).isSome
    have hsk := hsa _ (List.getElem_mem hlt)
    rw [List.drop_eq_getElem_cons hlt, rsL] at hst
    refine code_skip ?_
    refine post_next ?_
    refine code_seq ?_
    refine code_block ?_
    refine code_seq ?_
    refine code_region ?_
    first | refine op_v (v_index Try.underlying23 sz25 rfl rfl (by omega) (by assumption)) rfl ?_ | refine op_v (v_indexI Try.underlying23 sz25 rfl rfl (by first | omega | (simp; done) | (simp; omega)) (by first | omega | (simp; done) | (simp; omega)) (by assumption)) rfl ?_
    first | refine op_v (v_loadI0 ty25 ((hata k hlt).mono hI0) rfl rfl rfl) rfl ?_ | refine op_v (v_loadI ty25 ((hata k hlt).mono hI0) rfl rfl rfl) rfl ?_
    refine o_alloc z25 rfl rfl (fun b8 => ?_)
    refine o_store ty25 rfl rfl rfl rfl rfl (by repeat (first | exact Swap.here | apply Swap.there)) rfl ?_
    refine ops_nil ?_
    refine post_next ?_
    refine code_seq ?_
    refine code_region ?_
    refine op_v (v_move rfl) rfl ?_
    refine op_v (v_makeFunc rfl rfl) rfl ?_
    refine op_call pl97 rfl rfl ((IdxR_does (δf := [.box b8 25 [.int .i64 a[k].head, .slice (ssa k).1 a[k].args.length (ssa k).2]]) (p := fun u => decide (a[k] = u)) hx (by omega) (fun J u t hJ hu ht => FDoes.ofFunc (caps := [_]) pl98 (rest1_does hu ((hsuba k hlt).mono (Imm.le_trans hI0 hJ)) (hsb t (hLb t ht)) hsk)))) (Parts.two (Del.there (Del.there Del.here)) Del.here) ?_
    rintro v20 I20 _ hI20 ⟨rfl, rfl⟩
    refine op_v (v_assign rfl) rfl ?_
    refine ops_nil ?_
    refine post_next ?_
    refine code_seq ?_
    refine code_seq ?_
    refine code_region ?_
    refine op_v (v_move rfl) rfl ?_
    by_cases h22 : a[k] ∈ L
    · obtain ⟨i, hi1, hi2, hi3⟩ := idxQ_erase a[k] L h22
      rw [if_pos h22, ← hi3] at hst
      rw [hi1]
      have hlen : L.length - 1 = (L.eraseIdx i).length := by rw [List.length_eraseIdx]; simp [hi2]
      first | refine op_v (v_cmpt rfl rfl rfl (by first | omega | (simp; done) | (simp; omega))) rfl ?_ | refine op_v (v_cmpf rfl rfl rfl (by first | omega | (simp; done) | (simp; omega))) rfl ?_ | refine op_v (v_cmp rfl rfl rfl) rfl ?_
      refine ops_nil ?_
      refine post_next ?_
      refine code_cond_f rfl ?_
      refine code_skip ?_
      refine post_next ?_
      refine code_region ?_
      refine op_v (v_move rfl) rfl ?_
      refine op_v (v_move rfl) rfl ?_
      refine op_v (v_move rfl) rfl ?_
      first | refine op_v (v_addb rfl rfl rfl (by omega)) rfl ?_ | refine op_v (v_add rfl rfl) rfl ?_
      refine op_call pl99 rfl rfl ((Delete_does hi2 (by omega) hx.one1)) (Parts.one Del.here) ?_
      rintro v31 I31 _ hI31 ⟨rfl, rfl⟩
      refine op_v (v_assign rfl) rfl ?_
      refine ops_nil ?_
      refine post_out ?_
      refine post_next ?_
      refine code_region ?_
      first | refine op_v (v_addb rfl rfl rfl (by omega)) rfl ?_ | refine op_v (v_add rfl rfl) rfl ?_
      refine op_v (v_move rfl) rfl ?_
      refine ops_nil ?_
      refine PostJ.view ((View.drop (Del.there Del.here)).trans (View.perm (List.Perm.swap _ _ _))) ?_
      refine post_again (a.length - (k + 1)) [(5, .slice A (L.length - 1) c), (6, .slice B O.length e), (12, .slice ad a.length ac), (13, .int .i64 a.length), (14, .int .i64 (k + 1 : Nat))] (by omega) ⟨k + 1, L.eraseIdx i, O, A, B, c, e, _, ys, rfl, hlt, by rw [hlen], (by repeat (first | exact Imm.le_refl _ | assumption | refine Imm.le_trans ?_ (by assumption))), by simp only [tRow, ← hlen], (hx.mono (by repeat (first | exact Imm.le_refl _ | assumption | refine Imm.le_trans ?_ (by assumption)))).del hi2, hy.mono (by repeat (first | exact Imm.le_refl _ | assumption | refine Imm.le_trans ?_ (by assumption))), hst, by omega, by rw [← hlen]; omega, fun t ht => hLb t (List.mem_of_mem_eraseIdx ht)⟩ ⟨rfl, rfl, rfl, rfl, rfl, trivial⟩
    · rw [if_neg h22] at hst
      rw [idxQ_not a[k] L h22]
      first | refine op_v (v_cmpt rfl rfl rfl (by first | omega | (simp; done) | (simp; omega))) rfl ?_ | refine op_v (v_cmpf rfl rfl rfl (by first | omega | (simp; done) | (simp; omega))) rfl ?_ | refine op_v (v_cmp rfl rfl rfl) rfl ?_
      refine ops_nil ?_
      refine post_next ?_
      refine code_cond_t rfl ?_
      refine code_seq ?_
      refine code_region ?_
      refine op_v (v_move rfl) rfl ?_
      refine op_v (v_load ty25 rfl (by repeat (first | exact Has.here | apply Has.there)) rfl) rfl ?_
      refine o_buildSlice (xs := [(Go.Operand.tmp 24)]) Try.underlying23 bs25 rfl rfl rfl rfl rfl (fun b25 => ?_)
      refine o_append Try.underlying23 bs25 rfl rfl rfl (fun v' => by repeat (first | exact Swap.here | apply Swap.there)) (Src.ofRow (by repeat (first | exact Has.here | apply Has.there)) rfl) (by first | rfl | omega | simp) (by simp [cat, cellsL, Value.oneCell']) (by omega) (by omega) (fun a26 c26 => ?_)
      have hl2 : O.length + 1 = (O ++ [a[k]]).length := by simp
      refine op_v (v_assign rfl) rfl ?_
      refine ops_nil ?_
      refine post_next ?_
      refine code_exit ?_
      refine post_exit_then ?_
      refine post_exit ?_
      refine post_next ?_
      refine code_region ?_
      first | refine op_v (v_addb rfl rfl rfl (by omega)) rfl ?_ | refine op_v (v_add rfl rfl) rfl ?_
      refine op_v (v_move rfl) rfl ?_
      refine ops_nil ?_
      refine PostJ.view ((View.drop Del.here).trans ((View.drop (Del.there Del.here)).trans (View.perm (List.Perm.swap _ _ _)))) ?_
      refine post_again (a.length - (k + 1)) [(5, .slice A L.length c), (6, .slice a26 (O.length + 1) c26), (12, .slice ad a.length ac), (13, .int .i64 a.length), (14, .int .i64 (k + 1 : Nat))] (by omega) ⟨k + 1, L, O ++ [a[k]], A, a26, c, c26, xs, ys ++ [.int .i64 a[k].head, .slice (ssa k).1 a[k].args.length (ssa k).2], rfl, hlt, by rw [hl2], (by repeat (first | exact Imm.le_refl _ | assumption | refine Imm.le_trans ?_ (by assumption))), by simp only [tRow, ← hl2]; rfl, hx.mono (by repeat (first | exact Imm.le_refl _ | assumption | refine Imm.le_trans ?_ (by assumption))), (hy.mono (by repeat (first | exact Imm.le_refl _ | assumption | refine Imm.le_trans ?_ (by assumption)))).app (RowT.one ((hsuba k hlt).mono (by repeat (first | exact Imm.le_refl _ | assumption | refine Imm.le_trans ?_ (by assumption))))), by rw [hst]; simp, by rw [← hl2]; omega, hL, hLb⟩ ⟨rfl, rfl, rfl, rfl, rfl, trivial⟩
  · have hge : k = a.length := by simp at hc0; omega
    refine code_exit ?_
    refine post_exit_then ?_
    refine post_exit_then ?_
    refine post_exit ?_
    refine post_next ?_
    refine code_seq ?_
    refine code_region ?_
    refine OpsJ.freezeRow Del.here ?_
    rintro I33 A33 c33 hI33 hvr hcr hlr hcells33
    cases hvr
    rw [hge, List.drop_length] at hst
    refine op_v (v_move rfl) rfl ?_
    refine op_v (v_assign rfl) rfl ?_
    refine ops_nil ?_
    refine post_next ?_
    refine code_ret ?_
    refine post_ret (rs := [.tmp 4]) rfl (List.Perm.refl _) (.cons (.tmp rfl) .nil) (List.nil_sublist _) ?_
    exact ⟨by rw [hst]; simp only [rsL, List.append_nil]; exact RowT.repS rfl hcells33 (hy.mono hI33) hcr (by omega), rfl⟩
end Go.Proofs.Ytegceppoioeeaaa
