/- Walks: size, depth, variables and rightness of a term, by the program. -/
import Derived.Test.YtdcklngleglbbaaIu
set_option linter.unusedVariables false
set_option linter.unusedSimpArgs false
namespace Go.Proofs.Ytdcklngleglbbaa
open Go Lg

/-! ### models -/
mutual
def depT : T → Nat
  | .mk _ ts => 1 + depL ts
def depL : List T → Nat
  | [] => 0
  | t :: r => max (depT t) (depL r)
end
def deepP (l : List (Nat × T)) : Nat := l.foldl (fun m x => max m x.1) 0
theorem deepP_snoc (l : List (Nat × T)) (x : Nat × T) : deepP (l ++ [x]) = max (deepP l) x.1 := by simp [deepP]
theorem foldl_max (l : List (Nat × T)) (m : Nat) : l.foldl (fun m x => max m x.1) m = max m (deepP l) := by
  induction l generalizing m with
  | nil => simp [deepP]
  | cons x r ih => rw [deepP, List.foldl_cons, List.foldl_cons, ih, ih]; omega
theorem deepP_app (l r : List (Nat × T)) : deepP (l ++ r) = max (deepP l) (deepP r) := by rw [deepP, List.foldl_append, foldl_max]; rfl
theorem deepP_cons (x : Nat × T) (r : List (Nat × T)) : deepP (x :: r) = max x.1 (deepP r) := by rw [deepP, List.foldl_cons, foldl_max]; omega
mutual
theorem deepP_T : ∀ (d : Nat) (t : T), deepP (partsT d t) + 1 = d + depT t
  | d, .mk h ts => by
    rw [partsT, deepP_cons]
    have := deepP_L (d + 1) ts
    simp only [depT]
    rcases this with ⟨rfl, h1⟩ | h1
    · simp [partsL, deepP, depL]
    · omega
theorem deepP_L : ∀ (d : Nat) (ts : List T), (ts = [] ∧ deepP (partsL d ts) = 0) ∨ deepP (partsL d ts) + 1 = d + depL ts
  | d, [] => .inl ⟨rfl, rfl⟩
  | d, t :: r => by
    right
    rw [partsL, deepP_app]
    have h1 := deepP_T d t
    have hd : 1 ≤ depT t := by cases t; simp [depT]
    simp only [depL]
    rcases deepP_L d r with ⟨hr, h2⟩ | h2
    · subst hr
      have h3 : depL ([] : List T) = 0 := by simp [depL]
      rw [h2, h3]; omega
    · omega
end
theorem dep_deep (t : T) : deepP (partsT 1 t) = depT t := by have := deepP_T 1 t; omega
mutual
theorem depT_size : ∀ t : T, depT t ≤ t.size
  | .mk h ts => by have := depL_size ts; simp [depT, T.size]; omega
theorem depL_size : ∀ ts : List T, depL ts ≤ sizeL ts
  | [] => by simp [depL, sizeL]
  | t :: r => by have := depT_size t; have := depL_size r; simp [depL, sizeL]; omega
end

theorem TSize_does {I : Imm} {v : Value} {t : T} (hv : RepT I v t) (hbig : t.size ≤ 1000000000) :
    Does Try.prog 41 [v] I [] (fun v I' δ' => v = .int .i64 t.size ∧ δ' = []) := by
  obtain ⟨ad, c, rfl, hr0⟩ := hv.shape
  refine Does.intro Try.func41 rfl Try.ntmps41 rfl fun w0 => ?_
  refine code_seq ?_
  refine code_region ?_
  refine o_box rfl rfl rfl (fun b1 => ?_)
  refine op_v (v_assign rfl) rfl ?_
  refine ops_nil ?_
  refine post_next ?_
  refine code_seq ?_
  refine code_region ?_
  refine o_alloc z3 rfl rfl (fun b3 => ?_)
  refine o_store ty3 rfl rfl rfl rfl rfl (by first | exact Swap.here | exact Swap.there Swap.here | exact Swap.there (Swap.there Swap.here) | exact Swap.there (Swap.there (Swap.there Swap.here)) | exact Swap.there (Swap.there (Swap.there (Swap.there Swap.here))) | exact Swap.there (Swap.there (Swap.there (Swap.there (Swap.there Swap.here))))) rfl ?_
  refine ops_nil ?_
  refine post_next ?_
  refine code_seq ?_
  refine code_seq ?_
  refine code_region ?_
  refine op_v (v_load ty24 rfl (by first | exact Has.here | exact Has.there Has.here | exact Has.there (Has.there Has.here) | exact Has.there (Has.there (Has.there Has.here)) | exact Has.there (Has.there (Has.there (Has.there Has.here))) | exact Has.there (Has.there (Has.there (Has.there (Has.there Has.here)))) | exact Has.there (Has.there (Has.there (Has.there (Has.there (Has.there Has.here)))))) rfl) rfl ?_
  refine op_call pl69 rfl rfl ((parts_does)) Parts.none ?_
  rintro v5 I5 _ hI5 ⟨b5, rfl, rfl⟩
  refine ops_nil ?_
  refine post_next ?_
  refine code_block ?_
  refine code_range (δb := [_]) (B := fun l I' δ' => δ' = [.box b3 3 [.int .i64 l.length]]) rfl rfl pl81 rfl (parts_iter (hv.mono hI5) hbig) (List.Perm.refl _) rfl (by rintro _ _ _ ⟨_, _, rfl, _⟩; rfl) (by rintro l I1 I2 _ hle rfl; rfl) ?_ ?_
  · rintro l r w1 pre x post I2 _ _ hrs hrp hx hI2 rfl ⟨xa, xc, rfl, hxv⟩
    have hpl := congrArg List.length hx
    simp only [partsT_length, List.length_append, List.length_cons] at hpl
    refine code_skip ?_
    refine post_begin hrs Swap.here ?_
    refine code_block ?_
    refine code_region ?_
    refine op_v (v_load ty3 rfl (by first | exact Has.here | exact Has.there Has.here | exact Has.there (Has.there Has.here) | exact Has.there (Has.there (Has.there Has.here)) | exact Has.there (Has.there (Has.there (Has.there Has.here))) | exact Has.there (Has.there (Has.there (Has.there (Has.there Has.here)))) | exact Has.there (Has.there (Has.there (Has.there (Has.there (Has.there Has.here)))))) rfl) rfl ?_
    first | refine op_v (v_addb rfl rfl rfl (by omega)) rfl ?_ | refine op_v (v_add rfl rfl) rfl ?_
    refine o_store ty3 rfl rfl rfl rfl rfl (by first | exact Swap.here | exact Swap.there Swap.here | exact Swap.there (Swap.there Swap.here) | exact Swap.there (Swap.there (Swap.there Swap.here)) | exact Swap.there (Swap.there (Swap.there (Swap.there Swap.here))) | exact Swap.there (Swap.there (Swap.there (Swap.there (Swap.there Swap.here))))) rfl ?_
    refine ops_nil ?_
    refine post_out ?_
    refine post_round Swap.here hrs hrp ⟨rfl, _, rfl, ?_⟩
    simp
  · rintro blk I3 _ hI3 rfl
    refine post_out ?_
    refine post_next ?_
    refine code_seq ?_
    refine code_region ?_
    refine op_v (v_load ty3 rfl (by first | exact Has.here | exact Has.there Has.here | exact Has.there (Has.there Has.here) | exact Has.there (Has.there (Has.there Has.here)) | exact Has.there (Has.there (Has.there (Has.there Has.here))) | exact Has.there (Has.there (Has.there (Has.there (Has.there Has.here)))) | exact Has.there (Has.there (Has.there (Has.there (Has.there (Has.there Has.here)))))) rfl) rfl ?_
    refine op_v (v_assign rfl) rfl ?_
    refine ops_nil ?_
    refine post_next ?_
    refine code_ret ?_
    refine post_ret (rs := [.tmp 2]) rfl (List.Perm.refl _) (.cons (.tmp rfl) .nil) (List.nil_sublist _) ?_
    exact ⟨by simp [outV, partsT_length], rfl⟩

theorem TDepth_does {I : Imm} {v : Value} {t : T} (hv : RepT I v t) (hbig : t.size ≤ 1000000000) :
    Does Try.prog 42 [v] I [] (fun v I' δ' => v = .int .i64 (depT t) ∧ δ' = []) := by
  obtain ⟨ad, c, rfl, hr0⟩ := hv.shape
  refine Does.intro Try.func42 rfl Try.ntmps42 rfl fun w0 => ?_
  refine code_seq ?_
  refine code_region ?_
  refine o_box rfl rfl rfl (fun b1 => ?_)
  refine op_v (v_assign rfl) rfl ?_
  refine ops_nil ?_
  refine post_next ?_
  refine code_seq ?_
  refine code_region ?_
  refine o_alloc z3 rfl rfl (fun b3 => ?_)
  refine o_store ty3 rfl rfl rfl rfl rfl (by first | exact Swap.here | exact Swap.there Swap.here | exact Swap.there (Swap.there Swap.here) | exact Swap.there (Swap.there (Swap.there Swap.here)) | exact Swap.there (Swap.there (Swap.there (Swap.there Swap.here))) | exact Swap.there (Swap.there (Swap.there (Swap.there (Swap.there Swap.here))))) rfl ?_
  refine ops_nil ?_
  refine post_next ?_
  refine code_seq ?_
  refine code_seq ?_
  refine code_region ?_
  refine op_v (v_load ty24 rfl (by first | exact Has.here | exact Has.there Has.here | exact Has.there (Has.there Has.here) | exact Has.there (Has.there (Has.there Has.here)) | exact Has.there (Has.there (Has.there (Has.there Has.here))) | exact Has.there (Has.there (Has.there (Has.there (Has.there Has.here)))) | exact Has.there (Has.there (Has.there (Has.there (Has.there (Has.there Has.here)))))) rfl) rfl ?_
  refine op_call pl69 rfl rfl ((parts_does)) Parts.none ?_
  rintro v6 I6 _ hI6 ⟨b6, rfl, rfl⟩
  refine ops_nil ?_
  refine post_next ?_
  refine code_block ?_
  refine code_range (δb := [_]) (B := fun l I' δ' => δ' = [.box b3 3 [.int .i64 (deepP l)]]) rfl rfl pl81 rfl (parts_iter (hv.mono hI6) hbig) (List.Perm.refl _) rfl (by rintro _ _ _ ⟨_, _, rfl, _⟩; rfl) (by rintro l I1 I2 _ hle rfl; rfl) ?_ ?_
  · rintro l r w1 pre x post I2 _ _ hrs hrp hx hI2 rfl ⟨xa, xc, rfl, hxv⟩
    refine code_region ?_
    refine op_v (v_assign rfl) rfl ?_
    refine ops_nil ?_
    refine post_begin hrs Swap.here ?_
    refine code_block ?_
    refine code_region ?_
    refine op_v (v_load ty3 rfl (by first | exact Has.here | exact Has.there Has.here | exact Has.there (Has.there Has.here) | exact Has.there (Has.there (Has.there Has.here)) | exact Has.there (Has.there (Has.there (Has.there Has.here))) | exact Has.there (Has.there (Has.there (Has.there (Has.there Has.here)))) | exact Has.there (Has.there (Has.there (Has.there (Has.there (Has.there Has.here)))))) rfl) rfl ?_
    refine op_v (v_move rfl) rfl ?_
    refine op_v (v_max rfl rfl) rfl ?_
    rw [show max ((deepP pre : Nat) : Int) (x.1 : Int) = ((deepP (pre ++ [x]) : Nat) : Int) by rw [deepP_snoc]; omega]
    refine o_store ty3 rfl rfl rfl rfl rfl (by first | exact Swap.here | exact Swap.there Swap.here | exact Swap.there (Swap.there Swap.here) | exact Swap.there (Swap.there (Swap.there Swap.here)) | exact Swap.there (Swap.there (Swap.there (Swap.there Swap.here))) | exact Swap.there (Swap.there (Swap.there (Swap.there (Swap.there Swap.here))))) rfl ?_
    refine ops_nil ?_
    refine post_out ?_
    refine post_round Swap.here hrs hrp ⟨rfl, _, rfl, rfl⟩
  · rintro blk I3 _ hI3 rfl
    refine post_out ?_
    refine post_next ?_
    refine code_seq ?_
    refine code_region ?_
    refine op_v (v_load ty3 rfl (by first | exact Has.here | exact Has.there Has.here | exact Has.there (Has.there Has.here) | exact Has.there (Has.there (Has.there Has.here)) | exact Has.there (Has.there (Has.there (Has.there Has.here))) | exact Has.there (Has.there (Has.there (Has.there (Has.there Has.here)))) | exact Has.there (Has.there (Has.there (Has.there (Has.there (Has.there Has.here)))))) rfl) rfl ?_
    refine op_v (v_assign rfl) rfl ?_
    refine ops_nil ?_
    refine post_next ?_
    refine code_ret ?_
    refine post_ret (rs := [.tmp 2]) rfl (List.Perm.refl _) (.cons (.tmp rfl) .nil) (List.nil_sublist _) ?_
    exact ⟨by simp [outV, dep_deep], rfl⟩
end Go.Proofs.Ytdcklngleglbbaa
