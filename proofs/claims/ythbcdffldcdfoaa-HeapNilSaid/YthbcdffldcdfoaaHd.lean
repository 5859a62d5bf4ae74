/- Walks: a heap made, one more, the first one, one fewer. -/
import Derived.Test.YthbcdffldcdfoaaHc
set_option linter.unusedVariables false
set_option linter.unusedSimpArgs false
set_option linter.unnecessarySimpa false
/- short -/
namespace Go.Proofs.Ythbcdffldcdfoaa
open Go Lg

/-! ### plain -/
theorem gt_push {xs : List It} {x : It} {j : Nat} : gt (xs ++ [x]) j = if j < xs.length then gt xs j else if j = xs.length then x else (0, 0) := by
  unfold gt
  rw [List.getD_eq_getElem?_getD, List.getD_eq_getElem?_getD]
  by_cases h : j < xs.length
  · rw [if_pos h, List.getElem?_append_left h]
  · rw [if_neg h, List.getElem?_append_right (by omega)]
    by_cases e : j = xs.length
    · simp [e]
    · rw [if_neg e, List.getElem?_eq_none (by simp; omega)]; rfl
theorem gt_take {xs : List It} {n j : Nat} (h : j < n) : gt (xs.take n) j = gt xs j := by
  unfold gt
  rw [List.getD_eq_getElem?_getD, List.getD_eq_getElem?_getD, List.getElem?_take, if_pos h]
theorem mem_gt {xs : List It} {id : Int} : id ∈ xs.map (·.2) ↔ ∃ j, j < xs.length ∧ (gt xs j).2 = id := by
  rw [List.mem_map]
  constructor
  · rintro ⟨x, hx, rfl⟩
    obtain ⟨j, hj, rfl⟩ := List.getElem_of_mem hx
    exact ⟨j, hj, by rw [gt_at hj]⟩
  · rintro ⟨j, hj, rfl⟩
    exact ⟨xs[j], List.getElem_mem hj, by rw [gt_at hj]⟩
theorem AtOK.hasnt {xs : List It} {mp : Mp} (h : AtOK xs mp) {id : Int} (hn : id ∉ xs.map (·.2)) : mget mp id = none :=
  h.2 id fun j hj e => hn (mem_gt.2 ⟨j, hj, e⟩)
theorem AtOK.has {xs : List It} {mp : Mp} (h : AtOK xs mp) {id : Int} (hn : id ∈ xs.map (·.2)) : ∃ j, j < xs.length ∧ (gt xs j).2 = id ∧ mget mp id = some (.int .i64 (j : Nat)) := by
  obtain ⟨j, hj, e⟩ := mem_gt.1 hn
  exact ⟨j, hj, e, e ▸ h.1 j hj⟩
theorem AtOK.push {xs : List It} {mp mp' : Mp} {x : It} (h : AtOK xs mp) (hn : x.2 ∉ xs.map (·.2)) (hm : ∀ q, mget mp' q = if x.2 = q then some (.int .i64 xs.length) else mget mp q) : AtOK (xs ++ [x]) mp' := by
  constructor
  · intro j hj
    rw [List.length_append] at hj; simp at hj
    rw [gt_push, hm]
    by_cases e : j < xs.length
    · rw [if_pos e, if_neg (fun q => hn (mem_gt.2 ⟨j, e, q.symm⟩))]; exact h.1 j e
    · have : j = xs.length := by omega
      rw [if_neg e, if_pos this, if_pos rfl, this]
  · intro id hid
    have h1 := hid xs.length (by simp)
    rw [gt_push, if_neg (by omega), if_pos rfl] at h1
    rw [hm, if_neg h1]
    refine h.2 id fun j hj => ?_
    have := hid j (by simp; omega)
    rwa [gt_push, if_pos hj] at this
theorem up_push {xs : List It} (x : It) (h : IsHeap xs) : UpInv (xs ++ [x]) xs.length xs.length := by
  constructor
  · intro j h0 h1 hj _
    rw [List.length_append] at h1; simp at h1
    rw [gt_push, gt_push, if_pos (by omega), if_pos (by omega)]
    exact h j h0 (by omega)
  · intro j h0 h1 hj hp
    rw [List.length_append] at h1; simp at h1; omega
theorem heap_last {xs : List It} {n : Nat} (h : DownInv xs n) (hn : xs.length ≤ n + 1) : IsHeap xs := down_end h fun j h0 h1 h2 => by omega
def dropL (xs : List It) (i : Nat) : List It := (swapL xs i (xs.length - 1)).take (xs.length - 1)
theorem dropL_len (xs : List It) (i : Nat) : (dropL xs i).length = xs.length - 1 := by unfold dropL; rw [List.length_take, swapL_len]; omega
theorem gt_drop {xs : List It} {i : Nat} (hi : i < xs.length) {j : Nat} (hj : j < xs.length - 1) : gt (dropL xs i) j = if i = j then gt xs (xs.length - 1) else gt xs j := by
  unfold dropL
  rw [gt_take hj, gt_swap hi (by omega), if_neg (by omega)]
theorem dropL_perm {xs : List It} {i : Nat} (hi : i < xs.length) : xs.Perm (gt xs i :: dropL xs i) := by
  have h1 := (swapL_perm hi (show xs.length - 1 < xs.length by omega)).symm
  refine h1.trans ?_
  have e : swapL xs i (xs.length - 1) = dropL xs i ++ [gt xs i] := by
    unfold dropL
    have hl := swapL_len xs i (xs.length - 1)
    have h2 := List.take_append_drop (xs.length - 1) (swapL xs i (xs.length - 1))
    rw [List.drop_eq_getElem_cons (by omega), List.drop_eq_nil_of_le (by omega)] at h2
    have h3 := gt_at (xs := swapL xs i (xs.length - 1)) (j := xs.length - 1) (by omega)
    rw [gt_swap hi (by omega), if_pos rfl] at h3
    rw [← h3] at h2
    exact h2.symm
  rw [e]
  exact List.perm_append_comm
theorem dropL_up {xs : List It} {i : Nat} (h : IsHeap xs) (hi : i < xs.length - 1) : UpInv (dropL xs i) i i := by
  constructor
  · intro j h0 h1 hj hp
    rw [dropL_len] at h1
    rw [gt_drop (by omega) (by omega), gt_drop (by omega) h1, if_neg (by omega), if_neg (by omega)]
    exact h j h0 (by omega)
  · intro j h0 h1 hj hp
    rw [dropL_len] at h1
    rw [gt_drop (by omega) (by omega), gt_drop (by omega) h1, if_neg (by omega), if_neg (by omega)]
    exact leI_trans (h i hp (by omega)) (hj ▸ h j h0 (by omega))
theorem dropL_at {xs : List It} {mp mp1 mp2 : Mp} {i : Nat} (h : AtOK xs mp) (hi : i < xs.length) (h1 : AtOK (swapL xs i (xs.length - 1)) mp1) (hm : ∀ q, mget mp2 q = if q = (gt xs i).2 then none else mget mp1 q) : AtOK (dropL xs i) mp2 := by
  have hl := swapL_len xs i (xs.length - 1)
  have gl : gt (swapL xs i (xs.length - 1)) (xs.length - 1) = gt xs i := by rw [gt_swap hi (by omega), if_pos rfl]
  have ge : ∀ j, j < xs.length - 1 → gt (dropL xs i) j = gt (swapL xs i (xs.length - 1)) j := fun j hj => by unfold dropL; exact gt_take hj
  constructor
  · intro j hj
    rw [dropL_len] at hj
    rw [ge j hj, hm]
    have hne : (gt (swapL xs i (xs.length - 1)) j).2 ≠ (gt xs i).2 := fun e => by
      have := h1.inj (i := j) (j := xs.length - 1) (by omega) (by omega) (by rw [gl]; exact e)
      omega
    rw [if_neg hne]
    exact h1.1 j (by omega)
  · intro id hid
    rw [hm]
    split
    · rfl
    · rename_i hne
      refine h1.2 id fun j hj => ?_
      by_cases e : j = xs.length - 1
      · rw [e, gl]; exact fun q => hne q.symm
      · have := hid j (by rw [dropL_len]; omega)
        rwa [ge j (by omega)] at this
def PutH (xs : List It) (x : It) (e : Int) (ys : List It) : Prop := (x.2 ∈ xs.map (·.2) ∧ e = 1 ∧ ys = xs) ∨ (x.2 ∉ xs.map (·.2) ∧ 4096 ≤ xs.length ∧ e = 9 ∧ ys = xs) ∨ (x.2 ∉ xs.map (·.2) ∧ xs.length < 4096 ∧ e = 0 ∧ ys.Perm (xs ++ [x]))
def DropH (xs : List It) (id : Int) (b : Bool) (ys : List It) : Prop := (id ∉ xs.map (·.2) ∧ b = false ∧ ys = xs) ∨ ∃ x, x.2 = id ∧ b = true ∧ xs.Perm (x :: ys)
theorem Lg.side_twoA {I Ib : Imm} {δ : List Ent} {k : Nat} {A B : List Ent} {pend : Pend} (h0 : Ib.le I) (h1 : ∀ x ∈ A, x ∈ δ) (h2 : ∀ x ∈ B, x ∈ δ) : Side Ib I (two k A B) pend δ := fun p _ => ⟨h0, fun x hx => by unfold two at hx; cases hq : Nat.blt p.1 k <;> rw [hq] at hx; exact h2 x hx; exact h1 x hx⟩
/-! ### walks -/
theorem HNew_does (I : Imm) : Does Try.prog 23 [] I [] (fun v _ δ' => ∃ hb mb, v = .pointer (some ⟨hb, 0, none⟩) ∧ δ' = HeapE hb mb none 0 [] []) := by
  refine Does.intro Try.func23 rfl Try.ntmps23 rfl fun w0 => ?_
  refine code_seq ?_
  refine code_region ?_
  refine op_v (v_assign rfl) rfl ?_
  refine ops_nil ?_
  refine post_next ?_
  refine code_seq ?_
  refine code_region ?_
  refine o_makeMap rfl (fun b1 => ?_)
  refine op_v (v_build bl97 rfl rfl) rfl ?_
  refine o_box rfl rfl rfl (fun b3 => ?_)
  refine op_v (v_assign rfl) rfl ?_
  refine ops_nil ?_
  refine post_next ?_
  refine code_ret ?_
  refine PostJ.view ((View.nilRow 57 2).trans (View.perm (List.Perm.swap _ _ _))) (post_ret (rs := [.tmp 0]) rfl (List.Perm.refl _) (.cons (.tmp rfl) .nil) (List.Sublist.refl _) ⟨_, _, rfl, rfl⟩)
theorem HMin_does {I : Imm} {hb mb c : Nat} {A : Option Addr} {xs : List It} {mp : Mp} (hl : xs.length ≤ 1000000) :
    Does Try.prog 28 [.pointer (some ⟨hb, 0, none⟩)] I (HeapE hb mb A c xs mp) (fun v _ δ' => v = .tuple #[.agg #[.int .i64 (gt xs 0).1, .int .i64 (gt xs 0).2], .bool (decide (0 < xs.length))] ∧ δ' = HeapE hb mb A c xs mp) := by
  refine Does.intro Try.func28 rfl Try.ntmps28 rfl fun w0 => ?_
  refine code_seq ?_
  refine code_region ?_
  refine o_alloc z57 rfl rfl (fun b2 => ?_)
  refine op_v (v_assign rfl) rfl ?_
  refine ops_nil ?_
  refine post_next ?_
  refine code_seq ?_
  refine code_seq ?_
  refine code_region ?_
  refine op_v (v_move rfl) rfl ?_
  refine op_v (v_ptrq Try.underlying48 rfl rfl rfl) rfl ?_
  refine op_v (v_move rfl) rfl ?_
  first
    | (refine op_want rfl rfl ?_
       refine op_v (v_move rfl) rfl ?_)
    | (refine op_skip rfl rfl (by simp [undef]) rfl ?_)
  first
    | (refine op_want rfl rfl ?_
       refine op_v (v_nilCheck rfl) rfl ?_)
    | (refine op_skip rfl rfl (by simp [undef]) rfl ?_)
  first
    | (refine op_want rfl rfl ?_
       first | refine op_v (v_fieldB 0 Try.underlying97 rfl rfl fz51 rfl) rfl ?_ | refine op_v (v_fieldI 0 Try.underlying97 rfl rfl fz51 rfl (by assumption)) rfl ?_ | refine op_v (v_field Try.underlying97 rfl fz51 rfl rfl) rfl ?_)
    | (refine op_skip rfl rfl (by simp [undef]) rfl ?_)
  first
    | (refine op_want rfl rfl ?_
       refine op_v (v_loadA ty51 rfl rfl) rfl ?_)
    | (refine op_skip rfl rfl (by simp [undef]) rfl ?_)
  first
    | (refine op_want rfl rfl ?_
       refine op_v (v_len Try.underlying51 rfl) rfl ?_)
    | (refine op_skip rfl rfl (by simp [undef]) rfl ?_)
  by_cases h12 : xs.length = 0
  · first
      | (refine op_want rfl rfl ?_
         first | refine op_v (v_cmptA rfl rfl rfl) rfl ?_ | refine op_v (v_cmpfA rfl rfl rfl) rfl ?_ | refine op_v (v_cmp rfl rfl rfl) rfl ?_)
      | (refine op_skip rfl rfl (by simp [undef]) rfl ?_)
    first | refine op_v (v_pickt rfl rfl) rfl ?_ | refine op_v (v_pickf rfl rfl) rfl ?_ | refine op_v (v_pickb rfl rfl rfl) rfl ?_
    refine ops_nil ?_
    refine post_next ?_
    refine code_cond_t rfl ?_
    refine code_seq ?_
    refine code_region ?_
    refine op_v (v_build bl57 rfl rfl) rfl ?_
    refine o_store ty57 rfl rfl rfl rfl rfl (by repeat (first | exact Swap.here | apply Swap.there)) rfl ?_
    refine op_v (v_assign rfl) rfl ?_
    refine ops_nil ?_
    refine post_next ?_
    refine code_ret ?_
    refine post_ret_then ?_
    refine post_ret (rs := [.cell 2 57, .tmp 3]) rfl (List.Perm.refl _) (.cons (.cell rfl ty57 (by repeat (first | exact Has.here | apply Has.there)) rfl) (.cons (.tmp rfl) .nil)) (List.Sublist.cons _ (List.Sublist.refl _)) ?_
    have hx : xs = [] := List.eq_nil_of_length_eq_zero h12
    subst hx
    exact ⟨rfl, rfl⟩
  · first
      | (refine op_want rfl rfl ?_
         first | refine op_v (v_cmptA rfl rfl rfl) rfl ?_ | refine op_v (v_cmpfA rfl rfl rfl) rfl ?_ | refine op_v (v_cmp rfl rfl rfl) rfl ?_)
      | (refine op_skip rfl rfl (by simp [undef]) rfl ?_)
    first | refine op_v (v_pickt rfl rfl) rfl ?_ | refine op_v (v_pickf rfl rfl) rfl ?_ | refine op_v (v_pickb rfl rfl rfl) rfl ?_
    refine ops_nil ?_
    refine post_next ?_
    refine code_cond_f rfl ?_
    refine code_skip ?_
    refine post_next ?_
    refine code_seq ?_
    refine code_region ?_
    refine OpsJ.rowSome (Has.there (Has.there Has.here)) (by omega) (fun hA hcr => ?_)
    refine op_v (v_move rfl) rfl ?_
    refine op_v (v_nilCheck rfl) rfl ?_
    first | refine op_v (v_fieldB 0 Try.underlying97 rfl rfl fz51 rfl) rfl ?_ | refine op_v (v_fieldI 0 Try.underlying97 rfl rfl fz51 rfl (by assumption)) rfl ?_ | refine op_v (v_field Try.underlying97 rfl fz51 rfl rfl) rfl ?_
    refine op_v (v_loadA ty51 rfl rfl) rfl ?_
    first | refine op_v (v_indexA Try.underlying51 sz57 rfl rfl) rfl ?_ | refine op_v (v_indexIA Try.underlying51 sz57 rfl rfl) rfl ?_
    refine op_v (v_loadRow ty57 rfl (Has.there (Has.there Has.here)) hA (ld_it (i := 0) (by omega))) rfl ?_
    refine o_store ty57 rfl rfl rfl rfl rfl (by repeat (first | exact Swap.here | apply Swap.there)) rfl ?_
    refine op_v (v_assign rfl) rfl ?_
    refine ops_nil ?_
    refine post_next ?_
    refine code_ret ?_
    refine post_ret (rs := [.cell 2 57, .tmp 3]) rfl (List.Perm.refl _) (.cons (.cell rfl ty57 (by repeat (first | exact Has.here | apply Has.there)) rfl) (.cons (.tmp rfl) .nil)) (List.Sublist.cons _ (List.Sublist.refl _)) ?_
    exact ⟨by rw [show decide (0 < xs.length) = true by simp; omega]; rfl, rfl⟩
theorem HSize_does {I : Imm} {hb mb c : Nat} {A : Option Addr} {xs : List It} {mp : Mp} :
    Does Try.prog 30 [.pointer (some ⟨hb, 0, none⟩)] I (HeapE hb mb A c xs mp) (fun v _ δ' => v = .int .i64 xs.length ∧ δ' = HeapE hb mb A c xs mp) := by
  refine Does.intro Try.func30 rfl Try.ntmps30 rfl fun w0 => ?_
  refine code_seq ?_
  refine code_region ?_
  refine op_v (v_assign rfl) rfl ?_
  refine ops_nil ?_
  refine post_next ?_
  refine code_seq ?_
  refine code_seq ?_
  refine code_region ?_
  refine op_v (v_move rfl) rfl ?_
  refine op_v (v_ptrq (z := false) Try.underlying48 rfl rfl rfl) rfl ?_
  refine ops_nil ?_
  refine post_next ?_
  refine code_cond_f rfl ?_
  refine code_skip ?_
  refine post_next ?_
  refine code_seq ?_
  refine code_region ?_
  refine op_v (v_move rfl) rfl ?_
  refine op_v (v_nilCheck rfl) rfl ?_
  first | refine op_v (v_fieldB 0 Try.underlying97 rfl rfl fz51 rfl) rfl ?_ | refine op_v (v_fieldI 0 Try.underlying97 rfl rfl fz51 rfl (by assumption)) rfl ?_ | refine op_v (v_field Try.underlying97 rfl fz51 rfl rfl) rfl ?_
  refine op_v (v_loadA ty51 rfl rfl) rfl ?_
  refine op_v (v_len Try.underlying51 rfl) rfl ?_
  refine op_v (v_assign rfl) rfl ?_
  refine ops_nil ?_
  refine post_next ?_
  refine code_ret ?_
  refine post_ret (rs := [.tmp 2]) rfl (List.Perm.refl _) (.cons (.tmp rfl) .nil) (List.Sublist.refl _) ?_
  exact ⟨rfl, rfl⟩
theorem HPut_does {I : Imm} {hb mb c : Nat} {A : Option Addr} {xs : List It} {mp : Mp} {x : It} (hl : xs.length ≤ 4096) (hat : AtOK xs mp) (hh : IsHeap xs) :
    Does Try.prog 24 [.pointer (some ⟨hb, 0, none⟩), .agg #[.int .i64 x.1, .int .i64 x.2]] I (HeapE hb mb A c xs mp) (fun v _ δ' => ∃ e A' c' ys mq, v = .int .i64 e ∧ PutH xs x e ys ∧ ys.length ≤ 4096 ∧ AtOK ys mq ∧ IsHeap ys ∧ δ' = HeapE hb mb A' c' ys mq) := by
  refine Does.intro Try.func24 rfl Try.ntmps24 rfl fun w0 => ?_
  refine code_seq ?_
  refine code_region ?_
  refine o_box rfl rfl rfl (fun b3 => ?_)
  refine op_v (v_assign rfl) rfl ?_
  refine ops_nil ?_
  refine post_next ?_
  refine code_seq ?_
  refine code_seq ?_
  refine code_region ?_
  refine op_v (v_move rfl) rfl ?_
  refine op_v (v_ptrq (z := false) Try.underlying48 rfl rfl rfl) rfl ?_
  refine ops_nil ?_
  refine post_next ?_
  refine code_cond_f rfl ?_
  refine code_skip ?_
  refine post_next ?_
  refine code_seq ?_
  refine code_seq ?_
  refine code_draw (.fl 0 (.fl 1 (.fl 2 (.fl 3 (.fl 4 (.fl 5 (.ef 6 (.fl 7 (.fl 8 (.fl 9 (.ef 10 (.ef 11 .done)))))))))))) (fun _ => _) mixed (by kernel_rfl) (by kernel_rfl) (fun _ => (List.Sublist.refl _)) ?_
  refine e_fl rfl rfl (fun hs_ => PF.mk rfl (v_move rfl) hs_) ?_
  refine e_fl rfl rfl (fun hs_ => PF.mk rfl (v_nilCheck rfl) hs_) ?_
  first | refine e_fl rfl rfl (fun hs_ => PF.mk rfl (v_fieldB 1 Try.underlying97 rfl rfl fz95 rfl) hs_) ?_ | refine e_fl rfl rfl (fun hs_ => PF.mk rfl (v_fieldI 1 Try.underlying97 rfl rfl fz95 rfl (by assumption)) hs_) ?_ | refine e_fl rfl rfl (fun hs_ => PF.mk rfl (v_field Try.underlying97 rfl fz95 rfl rfl) hs_) ?_
  refine e_fl rfl rfl (fun hs_ => PF.mk rfl (v_loadA ty95 rfl rfl) hs_) ?_
  first | refine e_fl rfl rfl (fun hs_ => PF.mk rfl (v_fieldB 1 Try.underlying57 rfl rfl fz3 rfl) hs_) ?_ | refine e_fl rfl rfl (fun hs_ => PF.mk rfl (v_fieldI 1 Try.underlying57 rfl rfl fz3 rfl (by assumption)) hs_) ?_ | refine e_fl rfl rfl (fun hs_ => PF.mk rfl (v_field Try.underlying57 rfl fz3 rfl rfl) hs_) ?_
  refine e_fl rfl rfl (fun hs_ => PF.mk rfl (v_loadA ty3 rfl rfl) hs_) ?_
  refine e_eff rfl (by intro cs b hc; cases hc) (by intro c hc; cases hc) ?_
  refine op_v (v_mlook2 Try.underlying95 Try.underlying3 z3 rfl rfl (by repeat (first | exact Has.here | apply Has.there)) rfl rfl) rfl ?_
  refine ops_nil ?_
  refine e_next rfl side_allA ?_
  refine e_fl rfl rfl (fun hs_ => PF.mk rfl (v_move rfl) hs_) ?_
  refine e_fl rfl rfl (fun hs_ => PF.mk rfl (v_extract rfl rfl) hs_) ?_
  refine e_fl rfl rfl (fun hs_ => PF.mk rfl (v_extract rfl rfl) hs_) ?_
  refine e_eff rfl (by intro cs b hc; cases hc) (by intro c hc; cases hc) ?_
  refine op_v (v_assign rfl) rfl ?_
  refine ops_nil ?_
  refine e_next rfl side_allA ?_
  refine e_eff rfl (by intro cs b hc; cases hc) (by intro c hc; cases hc) ?_
  refine op_v (v_assign rfl) rfl ?_
  refine ops_nil ?_
  refine e_next rfl (side_nil (by kernel_rfl)) ?_
  refine e_done ?_
  refine post_next ?_
  refine code_seq ?_
  refine code_region ?_
  by_cases h19 : x.2 ∈ xs.map (·.2)
  · obtain ⟨j, hj, he, hm⟩ := hat.has h19
    rw [hm]
    refine op_v (v_move rfl) rfl ?_
    refine ops_nil ?_
    refine post_next ?_
    refine code_cond_t rfl ?_
    refine code_seq ?_
    refine code_region ?_
    refine op_v (v_assign rfl) rfl ?_
    refine ops_nil ?_
    refine post_next ?_
    refine code_ret ?_
    refine post_ret_then ?_
    refine post_ret (rs := [.tmp 4]) rfl (List.Perm.refl _) (.cons (.tmp rfl) .nil) (List.Sublist.cons _ (List.Sublist.refl _)) ?_
    exact ⟨1, A, c, xs, mp, rfl, .inl ⟨h19, rfl, rfl⟩, hl, hat, hh, rfl⟩
  · have hm := hat.hasnt h19
    rw [hm]
    refine op_v (v_move rfl) rfl ?_
    refine ops_nil ?_
    refine post_next ?_
    refine code_cond_f rfl ?_
    refine code_skip ?_
    refine post_next ?_
    refine code_seq ?_
    refine code_seq ?_
    refine code_region ?_
    refine op_v (v_move rfl) rfl ?_
    refine op_v (v_nilCheck rfl) rfl ?_
    first | refine op_v (v_fieldB 0 Try.underlying97 rfl rfl fz51 rfl) rfl ?_ | refine op_v (v_fieldI 0 Try.underlying97 rfl rfl fz51 rfl (by assumption)) rfl ?_ | refine op_v (v_field Try.underlying97 rfl fz51 rfl rfl) rfl ?_
    refine op_v (v_loadA ty51 rfl rfl) rfl ?_
    refine op_v (v_len Try.underlying51 rfl) rfl ?_
    by_cases h25 : 4096 ≤ xs.length
    · first | refine op_v (v_cmptA rfl rfl rfl) rfl ?_ | refine op_v (v_cmpfA rfl rfl rfl) rfl ?_ | refine op_v (v_cmp rfl rfl rfl) rfl ?_
      refine ops_nil ?_
      refine post_next ?_
      refine code_cond_t rfl ?_
      refine code_seq ?_
      refine code_region ?_
      refine op_v (v_assign rfl) rfl ?_
      refine ops_nil ?_
      refine post_next ?_
      refine code_ret ?_
      refine post_ret_then ?_
      refine post_ret (rs := [.tmp 4]) rfl (List.Perm.refl _) (.cons (.tmp rfl) .nil) (List.Sublist.cons _ (List.Sublist.refl _)) ?_
      exact ⟨9, A, c, xs, mp, rfl, .inr (.inl ⟨h19, h25, rfl, rfl⟩), hl, hat, hh, rfl⟩
    · first | refine op_v (v_cmptA rfl rfl rfl) rfl ?_ | refine op_v (v_cmpfA rfl rfl rfl) rfl ?_ | refine op_v (v_cmp rfl rfl rfl) rfl ?_
      refine ops_nil ?_
      refine post_next ?_
      refine code_cond_f rfl ?_
      refine code_skip ?_
      refine post_next ?_
      refine code_seq ?_
      refine code_draw (.fl 0 (.fl 1 (.fl 2 (.fl 3 (.fl 4 (.fl 5 (.fl 6 (.fl 7 (.fl 8 (.fl 9 (.fl 10 (.ef 11 .done)))))))))))) (fun _ => _) mixed (by kernel_rfl) (by kernel_rfl) (fun _ => (List.Sublist.refl _)) ?_
      refine e_fl rfl rfl (fun hs_ => PF.mk rfl (v_move rfl) hs_) ?_
      refine e_fl rfl rfl (fun hs_ => PF.mk rfl (v_nilCheck rfl) hs_) ?_
      first | refine e_fl rfl rfl (fun hs_ => PF.mk rfl (v_fieldB 1 Try.underlying97 rfl rfl fz95 rfl) hs_) ?_ | refine e_fl rfl rfl (fun hs_ => PF.mk rfl (v_fieldI 1 Try.underlying97 rfl rfl fz95 rfl (by assumption)) hs_) ?_ | refine e_fl rfl rfl (fun hs_ => PF.mk rfl (v_field Try.underlying97 rfl fz95 rfl rfl) hs_) ?_
      refine e_fl rfl rfl (fun hs_ => PF.mk rfl (v_loadA ty95 rfl rfl) hs_) ?_
      first | refine e_fl rfl rfl (fun hs_ => PF.mk rfl (v_fieldB 1 Try.underlying57 rfl rfl fz3 rfl) hs_) ?_ | refine e_fl rfl rfl (fun hs_ => PF.mk rfl (v_fieldI 1 Try.underlying57 rfl rfl fz3 rfl (by assumption)) hs_) ?_ | refine e_fl rfl rfl (fun hs_ => PF.mk rfl (v_field Try.underlying57 rfl fz3 rfl rfl) hs_) ?_
      refine e_fl rfl rfl (fun hs_ => PF.mk rfl (v_loadA ty3 rfl rfl) hs_) ?_
      refine e_fl rfl rfl (fun hs_ => PF.mk rfl (v_move rfl) hs_) ?_
      refine e_fl rfl rfl (fun hs_ => PF.mk rfl (v_nilCheck rfl) hs_) ?_
      first | refine e_fl rfl rfl (fun hs_ => PF.mk rfl (v_fieldB 0 Try.underlying97 rfl rfl fz51 rfl) hs_) ?_ | refine e_fl rfl rfl (fun hs_ => PF.mk rfl (v_fieldI 0 Try.underlying97 rfl rfl fz51 rfl (by assumption)) hs_) ?_ | refine e_fl rfl rfl (fun hs_ => PF.mk rfl (v_field Try.underlying97 rfl fz51 rfl rfl) hs_) ?_
      refine e_fl rfl rfl (fun hs_ => PF.mk rfl (v_loadA ty51 rfl rfl) hs_) ?_
      refine e_fl rfl rfl (fun hs_ => PF.mk rfl (v_len Try.underlying51 rfl) hs_) ?_
      refine e_eff rfl (by intro cs b hc; cases hc) (by intro c hc; cases hc) ?_
      refine o_mapUpdate Try.underlying95 Try.underlying3 rfl rfl rfl rfl (by repeat (first | exact Swap.here | apply Swap.there)) ?_
      refine ops_nil ?_
      refine e_next_ (side_nil (by kernel_rfl)) ?_
      refine e_done ?_
      refine post_next ?_
      refine code_seq ?_
      refine code_draw (.fl 0 (.fl 1 (.fl 2 (.fl 3 (.fl 4 (.fl 5 (.ef 6 (.ef 7 (.fl 8 (.fl 9 (.ef 10 .done))))))))))) (two 6 [.box b3 57 [.int .i64 x.1, .int .i64 x.2], .box hb 97 [.slice A xs.length c, .map (some mb)]] []) mixed (by kernel_rfl) (by kernel_rfl) (two_sub (List.Sublist.cons_cons _ (List.Sublist.cons_cons _ (List.nil_sublist _))) (List.nil_sublist _)) ?_
      refine e_float rfl rfl (fun hs_ => PF.mk rfl (v_move rfl) hs_) Imm.leA (by intro x hx; first | (change x ∈ [] at hx; cases hx) | (change x ∈ [_, _] at hx; simp only [List.mem_cons, List.not_mem_nil, or_false] at hx; rcases hx with h | h <;> subst h <;> simp [cellsL])) ?_
      refine e_float rfl rfl (fun hs_ => PF.mk rfl (v_move rfl) hs_) Imm.leA (by intro x hx; first | (change x ∈ [] at hx; cases hx) | (change x ∈ [_, _] at hx; simp only [List.mem_cons, List.not_mem_nil, or_false] at hx; rcases hx with h | h <;> subst h <;> simp [cellsL])) ?_
      refine e_float rfl rfl (fun hs_ => PF.mk rfl (v_nilCheck rfl) hs_) Imm.leA (by intro x hx; first | (change x ∈ [] at hx; cases hx) | (change x ∈ [_, _] at hx; simp only [List.mem_cons, List.not_mem_nil, or_false] at hx; rcases hx with h | h <;> subst h <;> simp [cellsL])) ?_
      first | refine e_float rfl rfl (fun hs_ => PF.mk rfl (v_fieldB 0 Try.underlying97 rfl rfl fz51 rfl) hs_) Imm.leA (by intro x hx; first | (change x ∈ [] at hx; cases hx) | (change x ∈ [_, _] at hx; simp only [List.mem_cons, List.not_mem_nil, or_false] at hx; rcases hx with h | h <;> subst h <;> simp [cellsL])) ?_ | refine e_float rfl rfl (fun hs_ => PF.mk rfl (v_fieldI 0 Try.underlying97 rfl rfl fz51 rfl (by assumption)) hs_) Imm.leA (by intro x hx; first | (change x ∈ [] at hx; cases hx) | (change x ∈ [_, _] at hx; simp only [List.mem_cons, List.not_mem_nil, or_false] at hx; rcases hx with h | h <;> subst h <;> simp [cellsL])) ?_ | refine e_float rfl rfl (fun hs_ => PF.mk rfl (v_field Try.underlying97 rfl fz51 rfl rfl) hs_) Imm.leA (by intro x hx; first | (change x ∈ [] at hx; cases hx) | (change x ∈ [_, _] at hx; simp only [List.mem_cons, List.not_mem_nil, or_false] at hx; rcases hx with h | h <;> subst h <;> simp [cellsL])) ?_
      refine e_float rfl rfl (fun hs_ => PF.mk rfl (v_loadA ty51 rfl rfl) hs_) Imm.leA (by intro x hx; first | (change x ∈ [] at hx; cases hx) | (change x ∈ [_, _] at hx; simp only [List.mem_cons, List.not_mem_nil, or_false] at hx; rcases hx with h | h <;> subst h <;> simp [cellsL])) ?_
      refine e_float rfl rfl (fun hs_ => PF.mk rfl (v_loadA ty57 rfl rfl) hs_) Imm.leA (by intro x hx; first | (change x ∈ [] at hx; cases hx) | (change x ∈ [_, _] at hx; simp only [List.mem_cons, List.not_mem_nil, or_false] at hx; rcases hx with h | h <;> subst h <;> simp [cellsL])) ?_
      refine e_eff rfl (by intro cs b hc; cases hc) (by intro c hc; cases hc) ?_
      refine o_buildSlice (xs := [(Go.Operand.tmp 42)]) Try.underlying51 bs57 rfl rfl rfl rfl rfl (fun b43 => ?_)
      refine ops_nil ?_
      refine e_next rfl (side_twoA (Imm.le_refl _) (by intro x hx; simp only [List.mem_cons, List.not_mem_nil, or_false] at hx; rcases hx with h | h <;> subst h <;> simp [cellsL]) (by intro x hx; cases hx)) ?_
      refine e_eff rfl (by intro cs b hc; cases hc) (by intro c hc; cases hc) ?_
      refine o_append Try.underlying51 bs57 rfl rfl rfl (fun v' => by repeat (first | exact Swap.here | apply Swap.there)) (Src.ofRow (by repeat (first | exact Has.here | apply Has.there)) rfl) (by first | rfl | omega | simp) (by simp [cat, cellsL, Value.oneCell']) (by omega) (by omega) (fun a44 c44 => ?_)
      refine ops_nil ?_
      refine e_next rfl (side_twoA (Imm.le_refl _) (by intro x hx; simp only [List.mem_cons, List.not_mem_nil, or_false] at hx; rcases hx with h | h <;> subst h <;> simp [cellsL]) (by intro x hx; cases hx)) ?_
      refine e_float rfl rfl (fun hs_ => PF.mk rfl (v_nilCheck rfl) hs_) Imm.leA (by intro x hx; first | (change x ∈ [] at hx; cases hx) | (change x ∈ [_, _] at hx; simp only [List.mem_cons, List.not_mem_nil, or_false] at hx; rcases hx with h | h <;> subst h <;> simp [cellsL])) ?_
      first | refine e_float rfl rfl (fun hs_ => PF.mk rfl (v_fieldB 0 Try.underlying97 rfl rfl fz51 rfl) hs_) Imm.leA (by intro x hx; first | (change x ∈ [] at hx; cases hx) | (change x ∈ [_, _] at hx; simp only [List.mem_cons, List.not_mem_nil, or_false] at hx; rcases hx with h | h <;> subst h <;> simp [cellsL])) ?_ | refine e_float rfl rfl (fun hs_ => PF.mk rfl (v_fieldI 0 Try.underlying97 rfl rfl fz51 rfl (by assumption)) hs_) Imm.leA (by intro x hx; first | (change x ∈ [] at hx; cases hx) | (change x ∈ [_, _] at hx; simp only [List.mem_cons, List.not_mem_nil, or_false] at hx; rcases hx with h | h <;> subst h <;> simp [cellsL])) ?_ | refine e_float rfl rfl (fun hs_ => PF.mk rfl (v_field Try.underlying97 rfl fz51 rfl rfl) hs_) Imm.leA (by intro x hx; first | (change x ∈ [] at hx; cases hx) | (change x ∈ [_, _] at hx; simp only [List.mem_cons, List.not_mem_nil, or_false] at hx; rcases hx with h | h <;> subst h <;> simp [cellsL])) ?_
      refine e_eff rfl (by intro cs b hc; cases hc) (by intro c hc; cases hc) ?_
      refine o_store ty51 rfl rfl rfl rfl rfl (by repeat (first | exact Swap.here | apply Swap.there)) rfl ?_
      refine ops_nil ?_
      refine e_next_ (side_two (by kernel_rfl) (Imm.le_refl _) (by intro x hx; cases hx)) ?_
      refine e_done ?_
      refine post_next ?_
      refine code_seq ?_
      refine code_region ?_
      refine OpsJ.view (View.drop Del.here) ?_
      have hln : (xs ++ [x]).length = xs.length + 1 := by simp
      have hδ : ([.box b3 57 [.int .i64 x.1, .int .i64 x.2], .box hb 97 [.slice a44 (xs.length + 1) c44, .map (some mb)], .row (.slice a44 (xs.length + 1) c44) 57 2 (xs.length + 1) (itL xs ++ cat [.agg #[.int .i64 x.1, .int .i64 x.2]]), .map mb (mput mp x.2 (.int .i64 xs.length))] : List Ent) = .box b3 57 [.int .i64 x.1, .int .i64 x.2] :: HeapE hb mb a44 c44 (xs ++ [x]) (mput mp x.2 (.int .i64 xs.length)) := by simp [HeapE, itL_snoc, cat, cellsL]
      refine OpsJ.view (View.perm (List.Perm.of_eq hδ)) ?_
      refine op_v (v_move rfl) rfl ?_
      refine op_v (v_move rfl) rfl ?_
      refine op_v (v_nilCheck rfl) rfl ?_
      first | refine op_v (v_fieldB 0 Try.underlying97 rfl rfl fz51 rfl) rfl ?_ | refine op_v (v_fieldI 0 Try.underlying97 rfl rfl fz51 rfl (by assumption)) rfl ?_ | refine op_v (v_field Try.underlying97 rfl fz51 rfl rfl) rfl ?_
      refine op_v (v_loadA ty51 rfl rfl) rfl ?_
      refine op_v (v_len Try.underlying51 rfl) rfl ?_
      refine op_v (v_subb (c := (xs.length : Nat)) rfl rfl (by omega) (by omega)) rfl ?_
      refine op_call pl54 rfl rfl ((up_does (by rw [hln]; omega) (by rw [hln]; omega) (hat.push h19 (fun q => mget_mput _ _ _ _)) (up_push x hh))) (List.perm_append_comm (l₁ := [_])) ?_
      rintro v54 I54 _ hI54 ⟨ys, mq, hperm, hdn, hok, rfl⟩
      refine OpsJ.view (View.perm (List.perm_append_comm (l₂ := [_]))) ?_
      have hyl := hperm.length_eq
      refine ops_nil ?_
      refine post_next ?_
      refine code_seq ?_
      refine code_region ?_
      refine op_v (v_assign rfl) rfl ?_
      refine ops_nil ?_
      refine post_next ?_
      refine code_ret ?_
      refine post_ret (rs := [.tmp 4]) rfl (List.Perm.refl _) (.cons (.tmp rfl) .nil) (List.Sublist.cons _ (List.Sublist.refl _)) ?_
      exact ⟨0, a44, c44, ys, mq, rfl, .inr (.inr ⟨h19, by omega, rfl, hperm⟩), by omega, hok, heap_last hdn (by omega), rfl⟩
end Go.Proofs.Ythbcdffldcdfoaa
