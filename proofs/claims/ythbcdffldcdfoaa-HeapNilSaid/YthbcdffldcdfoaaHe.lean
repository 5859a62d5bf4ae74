/- Walks: one item fewer; nil heaps. -/
import Derived.Test.YthbcdffldcdfoaaHd
set_option linter.unusedVariables false
set_option linter.unusedSimpArgs false
set_option linter.unnecessarySimpa false
/- short -/
namespace Go.Proofs.Ythbcdffldcdfoaa
open Go Lg

theorem dropL_heap {xs : List It} {i : Nat} (h : IsHeap xs) (hi : i < xs.length) (he : ¬ i < xs.length - 1) : IsHeap (dropL xs i) := fun j h0 h1 => by
  rw [dropL_len] at h1
  rw [gt_drop hi (by omega), gt_drop hi h1, if_neg (by omega), if_neg (by omega)]
  exact h j h0 (by omega)
theorem HDrop_does {I : Imm} {hb mb c : Nat} {A : Option Addr} {xs : List It} {mp : Mp} {id : Int} (hl : xs.length ≤ 4096) (hat : AtOK xs mp) (hh : IsHeap xs) :
    Does Try.prog 26 [.pointer (some ⟨hb, 0, none⟩), .int .i64 id] I (HeapE hb mb A c xs mp) (fun v _ δ' => ∃ b ys mq, v = .bool b ∧ DropH xs id b ys ∧ ys.length ≤ 4096 ∧ AtOK ys mq ∧ IsHeap ys ∧ δ' = HeapE hb mb A c ys mq) := by
  refine Does.intro Try.func26 rfl Try.ntmps26 rfl fun w0 => ?_
  refine code_seq ?_
  refine code_region ?_
  refine op_v (v_assign rfl) rfl ?_
  refine ops_nil ?_
  refine post_next ?_
  refine code_seq ?_
  refine code_seq ?_
  refine code_region ?_
  refine op_v (v_move rfl) rfl ?_
  refine op_v (v_ptrq (z := false) Try.underlying48 rfl rfl rfl) rfl ?_
  refine ops_nil ?_
  refine post_next ?_
  refine code_cond_f rfl ?_
  refine code_skip ?_
  refine post_next ?_
  refine code_seq ?_
  refine code_region ?_
  refine op_v (v_move rfl) rfl ?_
  refine op_v (v_nilCheck rfl) rfl ?_
  first | refine op_v (v_fieldB 1 Try.underlying97 rfl rfl fz95 rfl) rfl ?_ | refine op_v (v_fieldI 1 Try.underlying97 rfl rfl fz95 rfl (by assumption)) rfl ?_ | refine op_v (v_field Try.underlying97 rfl fz95 rfl rfl) rfl ?_
  refine op_v (v_loadA ty95 rfl rfl) rfl ?_
  refine op_v (v_move rfl) rfl ?_
  by_cases h16 : id ∈ xs.map (·.2)
  · obtain ⟨j, hj, he, hm⟩ := hat.has h16
    refine op_v (v_mlook2 (v := .int .i64 (j : Nat)) (g := true) Try.underlying95 Try.underlying3 z3 rfl rfl (Has.there (Has.there Has.here)) (by rw [hm]; rfl) (by rw [hm]; rfl)) rfl ?_
    refine op_v (v_move rfl) rfl ?_
    refine op_v (v_extract rfl rfl) rfl ?_
    refine op_v (v_extract rfl rfl) rfl ?_
    refine op_v (v_assign rfl) rfl ?_
    refine op_v (v_assign rfl) rfl ?_
    refine ops_nil ?_
    refine post_next ?_
    refine code_seq ?_
    refine code_seq ?_
    refine code_region ?_
    refine op_v (v_move rfl) rfl ?_
    refine op_v (v_not rfl) rfl ?_
    refine ops_nil ?_
    refine post_next ?_
    refine code_cond_f rfl ?_
    refine code_skip ?_
    refine post_next ?_
    refine code_seq ?_
    refine code_region ?_
    refine op_v (v_move rfl) rfl ?_
    refine op_v (v_nilCheck rfl) rfl ?_
    first | refine op_v (v_fieldB 0 Try.underlying97 rfl rfl fz51 rfl) rfl ?_ | refine op_v (v_fieldI 0 Try.underlying97 rfl rfl fz51 rfl (by assumption)) rfl ?_ | refine op_v (v_field Try.underlying97 rfl fz51 rfl rfl) rfl ?_
    refine op_v (v_loadA ty51 rfl rfl) rfl ?_
    refine op_v (v_len Try.underlying51 rfl) rfl ?_
    refine op_v (v_subb (c := ((xs.length - 1 : Nat) : Int)) rfl rfl (by omega) (by omega)) rfl ?_
    refine op_v (v_assign rfl) rfl ?_
    refine ops_nil ?_
    refine post_next ?_
    refine code_seq ?_
    refine code_region ?_
    refine OpsJ.rowSome (Has.there Has.here) (by omega) (fun hA hcr => ?_)
    refine op_v (v_move rfl) rfl ?_
    refine op_v (v_move rfl) rfl ?_
    refine op_v (v_move rfl) rfl ?_
    refine op_call pl56 rfl rfl ((swap_does (i := j) (k := xs.length - 1) hj (by omega) (by omega) hat)) Parts.all ?_
    rintro v30 I30 _ hI30 ⟨mp1, hat1, rfl⟩
    rw [List.append_nil]
    have hsl := swapL_len xs j (xs.length - 1)
    refine OpsJ.view (View.perm (List.Perm.of_eq (show HeapE hb mb A c (swapL xs j (xs.length - 1)) mp1 = [.box hb 97 [.slice A xs.length c, .map (some mb)], .row (.slice A xs.length c) 57 2 xs.length (itL (swapL xs j (xs.length - 1))), .map mb mp1] by simp only [HeapE, hsl]))) ?_
    refine ops_nil ?_
    refine post_next ?_
    refine code_seq ?_
    refine code_region ?_
    refine op_v (v_move rfl) rfl ?_
    refine op_v (v_move rfl) rfl ?_
    refine op_v (v_nilCheck rfl) rfl ?_
    first | refine op_v (v_fieldB 0 Try.underlying97 rfl rfl fz51 rfl) rfl ?_ | refine op_v (v_fieldI 0 Try.underlying97 rfl rfl fz51 rfl (by assumption)) rfl ?_ | refine op_v (v_field Try.underlying97 rfl fz51 rfl rfl) rfl ?_
    refine op_v (v_loadA ty51 rfl rfl) rfl ?_
    refine op_v (v_move rfl) rfl ?_
    refine op_v (v_sliceTo Try.underlying51 sz57 rfl rfl (by omega)) rfl ?_
    refine op_v (v_nilCheck rfl) rfl ?_
    first | refine op_v (v_fieldB 0 Try.underlying97 rfl rfl fz51 rfl) rfl ?_ | refine op_v (v_fieldI 0 Try.underlying97 rfl rfl fz51 rfl (by assumption)) rfl ?_ | refine op_v (v_field Try.underlying97 rfl fz51 rfl rfl) rfl ?_
    refine o_store ty51 rfl rfl rfl rfl rfl (by repeat (first | exact Swap.here | apply Swap.there)) rfl ?_
    refine ops_nil ?_
    refine post_next ?_
    refine code_seq ?_
    refine code_region ?_
    refine OpsJ.view (View.short (h := xs.length - 1) _ (Swap.there Swap.here) (Nat.sub_le _ _)) ?_
    refine op_v (v_move rfl) rfl ?_
    refine op_v (v_nilCheck rfl) rfl ?_
    first | refine op_v (v_fieldB 1 Try.underlying97 rfl rfl fz95 rfl) rfl ?_ | refine op_v (v_fieldI 1 Try.underlying97 rfl rfl fz95 rfl (by assumption)) rfl ?_ | refine op_v (v_field Try.underlying97 rfl fz95 rfl rfl) rfl ?_
    refine op_v (v_loadA ty95 rfl rfl) rfl ?_
    refine op_v (v_move rfl) rfl ?_
    refine o_delete (δ' := fun ys => [.box hb 97 [.slice A (xs.length - 1 : Nat) c, .map (some mb)], .row (.slice A (xs.length - 1) c) 57 2 (xs.length - 1) ((itL (swapL xs j (xs.length - 1))).take ((xs.length - 1) * 2)), .map mb ys]) Try.underlying95 Try.underlying3 (by rfl) (by rfl) (fun _ => Swap.there (Swap.there Swap.here)) (fun mp2 hm2 => ?_)
    have hdl := dropL_len xs j
    have hat2 : AtOK (dropL xs j) mp2 := dropL_at hat hj hat1 (fun q => by rw [he]; exact hm2 q)
    refine OpsJ.view (View.perm (List.Perm.of_eq (show ([.box hb 97 [.slice A (xs.length - 1 : Nat) c, .map (some mb)], .row (.slice A (xs.length - 1) c) 57 2 (xs.length - 1) ((itL (swapL xs j (xs.length - 1))).take ((xs.length - 1) * 2)), .map mb mp2] : List Ent) = HeapE hb mb A c (dropL xs j) mp2 by simp only [HeapE, hdl]; rw [show itL (dropL xs j) = (itL (swapL xs j (xs.length - 1))).take ((xs.length - 1) * 2) from itL_take _ _]))) ?_
    refine ops_nil ?_
    refine post_next ?_
    refine code_seq ?_
    refine code_seq ?_
    refine code_region ?_
    refine op_v (v_move rfl) rfl ?_
    refine op_v (v_move rfl) rfl ?_
    by_cases h47 : j < xs.length - 1
    · first | refine op_v (v_cmptA rfl rfl rfl) rfl ?_ | refine op_v (v_cmpfA rfl rfl rfl) rfl ?_ | refine op_v (v_cmp rfl rfl rfl) rfl ?_
      refine ops_nil ?_
      refine post_next ?_
      refine code_cond_t rfl ?_
      refine code_seq ?_
      refine code_region ?_
      refine op_v (v_move rfl) rfl ?_
      refine op_v (v_move rfl) rfl ?_
      refine op_call pl54 rfl rfl ((up_does (i := j) (by omega) (by omega) hat2 (dropL_up hh h47))) Parts.all ?_
      rintro v50 I50 _ hI50 ⟨ys, mq, hp1, hdn, hok1, rfl⟩
      rw [List.append_nil]
      have hy1 := hp1.length_eq
      refine ops_nil ?_
      refine post_next ?_
      refine code_region ?_
      refine op_v (v_move rfl) rfl ?_
      refine op_v (v_move rfl) rfl ?_
      refine op_call pl57 rfl rfl ((down_does (i := j) (by omega) (by omega) hok1 hdn)) Parts.all ?_
      rintro v53 I53 _ hI53 ⟨zs, mr, hp2, hhp, hok2, rfl⟩
      rw [List.append_nil]
      have hy2 := hp2.length_eq
      refine ops_nil ?_
      refine post_next ?_
      refine code_seq ?_
      refine code_region ?_
      refine op_v (v_assign rfl) rfl ?_
      refine ops_nil ?_
      refine post_next ?_
      refine code_ret ?_
      refine post_ret (rs := [.tmp 4]) rfl (List.Perm.refl _) (.cons (.tmp rfl) .nil) (List.Sublist.refl _) ?_
      exact ⟨true, zs, mr, rfl, .inr ⟨gt xs j, he, rfl, (dropL_perm hj).trans ((hp2.trans hp1).symm.cons _)⟩, by omega, hok2, hhp, rfl⟩
    · first | refine op_v (v_cmptA rfl rfl rfl) rfl ?_ | refine op_v (v_cmpfA rfl rfl rfl) rfl ?_ | refine op_v (v_cmp rfl rfl rfl) rfl ?_
      refine ops_nil ?_
      refine post_next ?_
      refine code_cond_f rfl ?_
      refine code_skip ?_
      refine post_next ?_
      refine code_seq ?_
      refine code_region ?_
      refine op_v (v_assign rfl) rfl ?_
      refine ops_nil ?_
      refine post_next ?_
      refine code_ret ?_
      refine post_ret (rs := [.tmp 4]) rfl (List.Perm.refl _) (.cons (.tmp rfl) .nil) (List.Sublist.refl _) ?_
      exact ⟨true, _, mp2, rfl, .inr ⟨gt xs j, he, rfl, dropL_perm hj⟩, by omega, hat2, dropL_heap hh hj h47, rfl⟩
  · have hm := hat.hasnt h16
    refine op_v (v_mlook2 (v := .int .i64 0) (g := false) Try.underlying95 Try.underlying3 z3 rfl rfl (Has.there (Has.there Has.here)) (by rw [hm]; rfl) (by rw [hm]; rfl)) rfl ?_
    refine op_v (v_move rfl) rfl ?_
    refine op_v (v_extract rfl rfl) rfl ?_
    refine op_v (v_extract rfl rfl) rfl ?_
    refine op_v (v_assign rfl) rfl ?_
    refine op_v (v_assign rfl) rfl ?_
    refine ops_nil ?_
    refine post_next ?_
    refine code_seq ?_
    refine code_seq ?_
    refine code_region ?_
    refine op_v (v_move rfl) rfl ?_
    refine op_v (v_not rfl) rfl ?_
    refine ops_nil ?_
    refine post_next ?_
    refine code_cond_t rfl ?_
    refine code_seq ?_
    refine code_region ?_
    refine op_v (v_assign rfl) rfl ?_
    refine ops_nil ?_
    refine post_next ?_
    refine code_ret ?_
    refine post_ret_then ?_
    refine post_ret (rs := [.tmp 4]) rfl (List.Perm.refl _) (.cons (.tmp rfl) .nil) (List.Sublist.refl _) ?_
    exact ⟨false, xs, mp, rfl, .inl ⟨h16, rfl, rfl⟩, hl, hat, hh, rfl⟩
/-! ### nil -/
theorem MinN_does (I : Imm) : Does Try.prog 28 [.pointer none] I [] (fun v _ δ' => v = .tuple #[.agg #[.int .i64 0, .int .i64 0], .bool false] ∧ δ' = []) := by
  refine Does.intro Try.func28 rfl Try.ntmps28 rfl fun w0 => ?_
  refine code_seq ?_
  refine code_region ?_
  refine o_alloc z57 rfl rfl (fun b2 => ?_)
  refine op_v (v_assign rfl) rfl ?_
  refine ops_nil ?_
  refine post_next ?_
  refine code_seq ?_
  refine code_seq ?_
  refine code_region ?_
  refine op_v (v_move rfl) rfl ?_
  refine op_v (v_ptrq (z := true) Try.underlying48 rfl rfl rfl) rfl ?_
  refine op_v (v_move rfl) rfl ?_
  first
    | (refine op_want rfl rfl ?_
       refine op_v (v_move rfl) rfl ?_)
    | (refine op_skip rfl rfl (by simp [undef]) rfl ?_)
  first
    | (refine op_want rfl rfl ?_
       refine op_v (v_nilCheck rfl) rfl ?_)
    | (refine op_skip rfl rfl (by simp [undef]) rfl ?_)
  first
    | (refine op_want rfl rfl ?_
       first | refine op_v (v_fieldB 0 Try.underlying97 rfl rfl fz51 rfl) rfl ?_ | refine op_v (v_fieldI 0 Try.underlying97 rfl rfl fz51 rfl (by assumption)) rfl ?_ | refine op_v (v_field Try.underlying97 rfl fz51 rfl rfl) rfl ?_)
    | (refine op_skip rfl rfl (by simp [undef]) rfl ?_)
  first
    | (refine op_want rfl rfl ?_
       refine op_v (v_loadA ty51 rfl rfl) rfl ?_)
    | (refine op_skip rfl rfl (by simp [undef]) rfl ?_)
  first
    | (refine op_want rfl rfl ?_
       refine op_v (v_len Try.underlying51 rfl) rfl ?_)
    | (refine op_skip rfl rfl (by simp [undef]) rfl ?_)
  first
    | (refine op_want rfl rfl ?_
       first | refine op_v (v_cmptA rfl rfl rfl) rfl ?_ | refine op_v (v_cmpfA rfl rfl rfl) rfl ?_ | refine op_v (v_cmp rfl rfl rfl) rfl ?_)
    | (refine op_skip rfl rfl (by simp [undef]) rfl ?_)
  first | refine op_v (v_pickt rfl rfl) rfl ?_ | refine op_v (v_pickf rfl rfl) rfl ?_ | refine op_v (v_pickb rfl rfl rfl) rfl ?_
  refine ops_nil ?_
  refine post_next ?_
  refine code_cond_t rfl ?_
  refine code_seq ?_
  refine code_region ?_
  refine op_v (v_build bl57 rfl rfl) rfl ?_
  refine o_store ty57 rfl rfl rfl rfl rfl (by repeat (first | exact Swap.here | apply Swap.there)) rfl ?_
  refine op_v (v_assign rfl) rfl ?_
  refine ops_nil ?_
  refine post_next ?_
  refine code_ret ?_
  refine post_ret_then ?_
  refine post_ret (rs := [.cell 2 57, .tmp 3]) rfl (List.Perm.refl _) (.cons (.cell rfl ty57 (by repeat (first | exact Has.here | apply Has.there)) rfl) (.cons (.tmp rfl) .nil)) (List.nil_sublist _) ?_
  exact ⟨rfl, rfl⟩
theorem PutN_does (I : Imm) (a b : Int) : Does Try.prog 24 [.pointer none, .agg #[.int .i64 a, .int .i64 b]] I [] (fun v _ δ' => v = .int .i64 3 ∧ δ' = []) := by
  refine Does.intro Try.func24 rfl Try.ntmps24 rfl fun w0 => ?_
  refine code_seq ?_
  refine code_region ?_
  refine o_box rfl rfl rfl (fun b3 => ?_)
  refine op_v (v_assign rfl) rfl ?_
  refine ops_nil ?_
  refine post_next ?_
  refine code_seq ?_
  refine code_seq ?_
  refine code_region ?_
  refine op_v (v_move rfl) rfl ?_
  refine op_v (v_ptrq (z := true) Try.underlying48 rfl rfl rfl) rfl ?_
  refine ops_nil ?_
  refine post_next ?_
  refine code_cond_t rfl ?_
  refine code_seq ?_
  refine code_region ?_
  refine op_v (v_assign rfl) rfl ?_
  refine ops_nil ?_
  refine post_next ?_
  refine code_ret ?_
  refine post_ret_then ?_
  refine post_ret (rs := [.tmp 4]) rfl (List.Perm.refl _) (.cons (.tmp rfl) .nil) (List.nil_sublist _) ?_
  exact ⟨rfl, rfl⟩
theorem DropN_does (I : Imm) (a : Int) : Does Try.prog 26 [.pointer none, .int .i64 a] I [] (fun v _ δ' => v = .bool false ∧ δ' = []) := by
  refine Does.intro Try.func26 rfl Try.ntmps26 rfl fun w0 => ?_
  refine code_seq ?_
  refine code_region ?_
  refine op_v (v_assign rfl) rfl ?_
  refine ops_nil ?_
  refine post_next ?_
  refine code_seq ?_
  refine code_seq ?_
  refine code_region ?_
  refine op_v (v_move rfl) rfl ?_
  refine op_v (v_ptrq (z := true) Try.underlying48 rfl rfl rfl) rfl ?_
  refine ops_nil ?_
  refine post_next ?_
  refine code_cond_t rfl ?_
  refine code_seq ?_
  refine code_region ?_
  refine op_v (v_assign rfl) rfl ?_
  refine ops_nil ?_
  refine post_next ?_
  refine code_ret ?_
  refine post_ret_then ?_
  refine post_ret (rs := [.tmp 4]) rfl (List.Perm.refl _) (.cons (.tmp rfl) .nil) (List.nil_sublist _) ?_
  exact ⟨rfl, rfl⟩
theorem SizeN_does (I : Imm) : Does Try.prog 30 [.pointer none] I [] (fun v _ δ' => v = .int .i64 0 ∧ δ' = []) := by
  refine Does.intro Try.func30 rfl Try.ntmps30 rfl fun w0 => ?_
  refine code_seq ?_
  refine code_region ?_
  refine op_v (v_assign rfl) rfl ?_
  refine ops_nil ?_
  refine post_next ?_
  refine code_seq ?_
  refine code_seq ?_
  refine code_region ?_
  refine op_v (v_move rfl) rfl ?_
  refine op_v (v_ptrq (z := true) Try.underlying48 rfl rfl rfl) rfl ?_
  refine ops_nil ?_
  refine post_next ?_
  refine code_cond_t rfl ?_
  refine code_seq ?_
  refine code_region ?_
  refine op_v (v_assign rfl) rfl ?_
  refine ops_nil ?_
  refine post_next ?_
  refine code_ret ?_
  refine post_ret_then ?_
  refine post_ret (rs := [.tmp 2]) rfl (List.Perm.refl _) (.cons (.tmp rfl) .nil) (List.nil_sublist _) ?_
  exact ⟨rfl, rfl⟩
theorem QPutN_does (I : Imm) (a b : Int) : Does Try.prog 34 [.pointer none, .int .i64 a, .int .i64 b] I [] (fun v _ δ' => v = .int .i64 3 ∧ δ' = []) := by
  refine Does.intro Try.func34 rfl Try.ntmps34 rfl fun w0 => ?_
  refine code_seq ?_
  refine code_region ?_
  refine op_v (v_assign rfl) rfl ?_
  refine ops_nil ?_
  refine post_next ?_
  refine code_seq ?_
  refine code_seq ?_
  refine code_region ?_
  refine op_v (v_move rfl) rfl ?_
  refine op_v (v_ptrq (z := true) Try.underlying62 rfl rfl rfl) rfl ?_
  refine ops_nil ?_
  refine post_next ?_
  refine code_cond_t rfl ?_
  refine code_seq ?_
  refine code_region ?_
  refine op_v (v_assign rfl) rfl ?_
  refine ops_nil ?_
  refine post_next ?_
  refine code_ret ?_
  refine post_ret_then ?_
  refine post_ret (rs := [.tmp 6]) rfl (List.Perm.refl _) (.cons (.tmp rfl) .nil) (List.nil_sublist _) ?_
  exact ⟨rfl, rfl⟩
theorem QNextN_does (I : Imm) : Does Try.prog 35 [.pointer none] I [] (fun v _ δ' => v = .tuple #[.int .i64 0, .bool false] ∧ δ' = []) := by
  refine Does.intro Try.func35 rfl Try.ntmps35 rfl fun w0 => ?_
  refine code_seq ?_
  refine code_region ?_
  refine op_v (v_assign rfl) rfl ?_
  refine op_v (v_assign rfl) rfl ?_
  refine ops_nil ?_
  refine post_next ?_
  refine code_seq ?_
  refine code_seq ?_
  refine code_region ?_
  refine op_v (v_move rfl) rfl ?_
  refine op_v (v_ptrq (z := true) Try.underlying62 rfl rfl rfl) rfl ?_
  refine ops_nil ?_
  refine post_next ?_
  refine code_cond_t rfl ?_
  refine code_seq ?_
  refine code_region ?_
  refine op_v (v_assign rfl) rfl ?_
  refine op_v (v_assign rfl) rfl ?_
  refine ops_nil ?_
  refine post_next ?_
  refine code_ret ?_
  refine post_ret_then ?_
  refine post_ret (rs := [.tmp 2, .tmp 3]) rfl (List.Perm.refl _) (.cons (.tmp rfl) (.cons (.tmp rfl) .nil)) (List.nil_sublist _) ?_
  exact ⟨rfl, rfl⟩
theorem QDropN_does (I : Imm) (a : Int) : Does Try.prog 37 [.pointer none, .int .i64 a] I [] (fun v _ δ' => v = .bool false ∧ δ' = []) := by
  refine Does.intro Try.func37 rfl Try.ntmps37 rfl fun w0 => ?_
  refine code_seq ?_
  refine code_region ?_
  refine op_v (v_assign rfl) rfl ?_
  refine ops_nil ?_
  refine post_next ?_
  refine code_seq ?_
  refine code_seq ?_
  refine code_region ?_
  refine op_v (v_move rfl) rfl ?_
  refine op_v (v_ptrq (z := true) Try.underlying62 rfl rfl rfl) rfl ?_
  refine ops_nil ?_
  refine post_next ?_
  refine code_cond_t rfl ?_
  refine code_seq ?_
  refine code_region ?_
  refine op_v (v_assign rfl) rfl ?_
  refine ops_nil ?_
  refine post_next ?_
  refine code_ret ?_
  refine post_ret_then ?_
  refine post_ret (rs := [.tmp 4]) rfl (List.Perm.refl _) (.cons (.tmp rfl) .nil) (List.nil_sublist _) ?_
  exact ⟨rfl, rfl⟩
theorem QSizeN_does (I : Imm) : Does Try.prog 38 [.pointer none] I [] (fun v _ δ' => v = .int .i64 0 ∧ δ' = []) := by
  refine Does.intro Try.func38 rfl Try.ntmps38 rfl fun w0 => ?_
  refine code_seq ?_
  refine code_region ?_
  refine op_v (v_assign rfl) rfl ?_
  refine ops_nil ?_
  refine post_next ?_
  refine code_seq ?_
  refine code_seq ?_
  refine code_region ?_
  refine op_v (v_move rfl) rfl ?_
  refine op_v (v_ptrq (z := true) Try.underlying62 rfl rfl rfl) rfl ?_
  refine ops_nil ?_
  refine post_next ?_
  refine code_cond_t rfl ?_
  refine code_seq ?_
  refine code_region ?_
  refine op_v (v_assign rfl) rfl ?_
  refine ops_nil ?_
  refine post_next ?_
  refine code_ret ?_
  refine post_ret_then ?_
  refine post_ret (rs := [.tmp 2]) rfl (List.Perm.refl _) (.cons (.tmp rfl) .nil) (List.nil_sublist _) ?_
  exact ⟨rfl, rfl⟩
end Go.Proofs.Ythbcdffldcdfoaa
