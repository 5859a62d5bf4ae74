/- Walks: the next one of a queue. -/
import Derived.Test.YthbcdffldcdfoaaHq
set_option linter.unusedVariables false
set_option linter.unusedSimpArgs false
set_option linter.unnecessarySimpa false
/- short -/
namespace Go.Proofs.Ythbcdffldcdfoaa
open Go Lg

theorem permA {l A W : List Ent} : (l ++ (A ++ W)).Perm (A ++ (l ++ W)) := by
  rw [← List.append_assoc, ← List.append_assoc]; exact List.perm_append_comm.append_right W
theorem permW {l A W : List Ent} : (l ++ (A ++ W)).Perm (W ++ (l ++ A)) := by
  rw [← List.append_assoc]; exact List.perm_append_comm
theorem min_mem {xs : List It} (h : IsHeap xs) {x : It} (hx : x ∈ xs) : leI (gt xs 0) x := by
  obtain ⟨j, hj, rfl⟩ := List.getElem_of_mem hx
  rw [← gt_at hj]; exact heap_min h j j (Nat.le_refl _) hj
theorem gt_mem {xs : List It} (h : 0 < xs.length) : gt xs 0 ∈ xs := by rw [gt_at h]; exact List.getElem_mem h
theorem id_inj {xs : List It} {mp : Mp} (h : AtOK xs mp) {x y : It} (hx : x ∈ xs) (hy : y ∈ xs) (e : x.2 = y.2) : x = y := by
  obtain ⟨i, hi, rfl⟩ := List.getElem_of_mem hx
  obtain ⟨j, hj, rfl⟩ := List.getElem_of_mem hy
  have := h.inj hi hj (by rw [gt_at hi, gt_at hj]; exact e)
  subst this; rfl
def NextQ (a w told : Nat) (ys : List It) (y : It) : Prop := if told % (a + w) < a then ∀ z ∈ ys, y.2 ≤ z.2 else ∀ z ∈ ys, leI y z
theorem NextQ_of {a w told : Nat} {xs ys : List It} {mp mq : Mp} {y : It} (hok : QOK xs ys mp mq) (h45 : 0 < ys.length) (hym : y ∈ ys) (hy : y.2 = if told % (a + w) < a then (gt xs 0).2 else (gt ys 0).2) : NextQ a w told ys y := by
  have hx0 : 0 < xs.length := by rw [hok.len]; exact h45
  unfold NextQ
  by_cases h34 : told % (a + w) < a
  · rw [if_pos h34] at hy ⊢
    intro z hz
    obtain ⟨x', hx', hxz⟩ := List.mem_map.1 ((hok.ids z.2).2 (List.mem_map_of_mem (f := fun x : It => x.2) hz))
    have h1 := min_mem hok.hx hx'
    have h2 := hok.eq _ (gt_mem hx0)
    have h3 := hok.eq _ hx'
    change x'.2 = z.2 at hxz
    unfold leI at h1
    rw [hy, ← hxz]; omega
  · rw [if_neg h34] at hy ⊢
    intro z hz
    have : y = gt ys 0 := id_inj hok.oy hym (gt_mem h45) hy
    rw [this]; exact min_mem hok.hy hz
theorem QNext_does {I : Imm} {q : Qa} {a w told : Nat} {ys : List It} {δ : List Ent} (hq : QE q a w told ys δ) (ha : a ≤ 16) (hw : w ≤ 16) (haw : 0 < a + w) (ht : told ≤ 1000000) :
    Does Try.prog 35 [.pointer (some ⟨q.qb, 0, none⟩)] I δ (fun v _ δ' => (ys = [] ∧ v = .tuple #[.int .i64 0, .bool false] ∧ QE q a w told [] δ') ∨ ∃ y zs, ys.Perm (y :: zs) ∧ v = .tuple #[.int .i64 y.2, .bool true] ∧ NextQ a w told ys y ∧ QE q a w (told + 1) zs δ') := by
  obtain ⟨Aa, ca, xs, mp, Aw, cw, mq, hok, rfl⟩ := hq
  have hlen := hok.len
  have hlx := hok.lx
  refine Does.intro Try.func35 rfl Try.ntmps35 rfl fun w0 => ?_
  refine code_seq ?_
  refine code_region ?_
  refine op_v (v_assign rfl) rfl ?_
  refine op_v (v_assign rfl) rfl ?_
  refine ops_nil ?_
  refine post_next ?_
  refine code_seq ?_
  refine code_seq ?_
  refine code_region ?_
  refine op_v (v_move rfl) rfl ?_
  refine op_v (v_ptrq (z := false) Try.underlying62 rfl rfl rfl) rfl ?_
  refine ops_nil ?_
  refine post_next ?_
  refine code_cond_f rfl ?_
  refine code_skip ?_
  refine post_next ?_
  refine code_seq ?_
  refine code_region ?_
  refine op_v (v_move rfl) rfl ?_
  refine op_v (v_nilCheck rfl) rfl ?_
  first | refine op_v (v_fieldB 2 Try.underlying104 rfl rfl fz102 rfl) rfl ?_ | refine op_v (v_fieldI 2 Try.underlying104 rfl rfl fz102 rfl (by assumption)) rfl ?_ | refine op_v (v_field Try.underlying104 rfl fz102 rfl rfl) rfl ?_
  refine op_v (v_loadA ty102 rfl rfl) rfl ?_
  refine o_alloc z102 rfl rfl (fun b4 => ?_)
  refine o_store ty102 rfl rfl rfl rfl rfl (by repeat (first | exact Swap.here | apply Swap.there)) rfl ?_
  refine ops_nil ?_
  refine post_next ?_
  refine code_seq ?_
  refine code_seq ?_
  refine code_draw (.fl 0 (.fl 1 (.fl 2 (.fl 3 (.fl 4 (.fl 5 (.fl 6 (.fl 7 (.fl 8 (.fl 9 (.fl 10 (.fl 11 (.fl 12 (.fl 13 (.fl 14 (.fl 15 (.fl 16 (.fl 17 (.fl 18 (.fl 19 (.fl 20 (.fl 21 .done)))))))))))))))))))))) (fun _ => _) mixed (by kernel_rfl) (by kernel_rfl) (fun _ => (List.Sublist.refl _)) ?_
  refine e_fl rfl rfl (fun hs_ => PF.mk rfl (v_move rfl) hs_) ?_
  refine e_fl rfl rfl (fun hs_ => PF.mk rfl (v_nilCheck rfl) hs_) ?_
  first | refine e_fl rfl rfl (fun hs_ => PF.mk rfl (v_fieldB 4 Try.underlying104 rfl rfl fz3 rfl) hs_) ?_ | refine e_fl rfl rfl (fun hs_ => PF.mk rfl (v_fieldI 4 Try.underlying104 rfl rfl fz3 rfl (by assumption)) hs_) ?_ | refine e_fl rfl rfl (fun hs_ => PF.mk rfl (v_field Try.underlying104 rfl fz3 rfl rfl) hs_) ?_
  refine e_fl rfl rfl (fun hs_ => PF.mk rfl (v_loadA ty3 rfl rfl) hs_) ?_
  refine e_fl rfl rfl (fun hs_ => PF.mk rfl (v_move rfl) hs_) ?_
  refine e_fl rfl rfl (fun hs_ => PF.mk rfl (v_nilCheck rfl) hs_) ?_
  first | refine e_fl rfl rfl (fun hs_ => PF.mk rfl (v_fieldB 0 Try.underlying104 rfl rfl fz102 rfl) hs_) ?_ | refine e_fl rfl rfl (fun hs_ => PF.mk rfl (v_fieldI 0 Try.underlying104 rfl rfl fz102 rfl (by assumption)) hs_) ?_ | refine e_fl rfl rfl (fun hs_ => PF.mk rfl (v_field Try.underlying104 rfl fz102 rfl rfl) hs_) ?_
  first | refine e_fl rfl rfl (fun hs_ => PF.mk rfl (v_fieldB 1 Try.underlying102 rfl rfl fz3 rfl) hs_) ?_ | refine e_fl rfl rfl (fun hs_ => PF.mk rfl (v_fieldI 1 Try.underlying102 rfl rfl fz3 rfl (by assumption)) hs_) ?_ | refine e_fl rfl rfl (fun hs_ => PF.mk rfl (v_field Try.underlying102 rfl fz3 rfl rfl) hs_) ?_
  refine e_fl rfl rfl (fun hs_ => PF.mk rfl (v_loadA ty3 rfl rfl) hs_) ?_
  refine e_fl rfl rfl (fun hs_ => PF.mk rfl (v_move rfl) hs_) ?_
  refine e_fl rfl rfl (fun hs_ => PF.mk rfl (v_nilCheck rfl) hs_) ?_
  first | refine e_fl rfl rfl (fun hs_ => PF.mk rfl (v_fieldB 2 Try.underlying104 rfl rfl fz102 rfl) hs_) ?_ | refine e_fl rfl rfl (fun hs_ => PF.mk rfl (v_fieldI 2 Try.underlying104 rfl rfl fz102 rfl (by assumption)) hs_) ?_ | refine e_fl rfl rfl (fun hs_ => PF.mk rfl (v_field Try.underlying104 rfl fz102 rfl rfl) hs_) ?_
  first | refine e_fl rfl rfl (fun hs_ => PF.mk rfl (v_fieldB 1 Try.underlying102 rfl rfl fz3 rfl) hs_) ?_ | refine e_fl rfl rfl (fun hs_ => PF.mk rfl (v_fieldI 1 Try.underlying102 rfl rfl fz3 rfl (by assumption)) hs_) ?_ | refine e_fl rfl rfl (fun hs_ => PF.mk rfl (v_field Try.underlying102 rfl fz3 rfl rfl) hs_) ?_
  refine e_fl rfl rfl (fun hs_ => PF.mk rfl (v_loadA ty3 rfl rfl) hs_) ?_
  refine e_fl rfl rfl (fun hs_ => PF.mk rfl (v_addb (c := ((a + w : Nat) : Int)) rfl rfl (by omega) (by omega)) hs_) ?_
  refine e_fl rfl rfl (fun hs_ => PF.mk rfl (v_remb (c := ((told % (a + w) : Nat) : Int)) rfl rfl (by omega) rfl) hs_) ?_
  refine e_fl rfl rfl (fun hs_ => PF.mk rfl (v_move rfl) hs_) ?_
  refine e_fl rfl rfl (fun hs_ => PF.mk rfl (v_nilCheck rfl) hs_) ?_
  first | refine e_fl rfl rfl (fun hs_ => PF.mk rfl (v_fieldB 0 Try.underlying104 rfl rfl fz102 rfl) hs_) ?_ | refine e_fl rfl rfl (fun hs_ => PF.mk rfl (v_fieldI 0 Try.underlying104 rfl rfl fz102 rfl (by assumption)) hs_) ?_ | refine e_fl rfl rfl (fun hs_ => PF.mk rfl (v_field Try.underlying104 rfl fz102 rfl rfl) hs_) ?_
  first | refine e_fl rfl rfl (fun hs_ => PF.mk rfl (v_fieldB 1 Try.underlying102 rfl rfl fz3 rfl) hs_) ?_ | refine e_fl rfl rfl (fun hs_ => PF.mk rfl (v_fieldI 1 Try.underlying102 rfl rfl fz3 rfl (by assumption)) hs_) ?_ | refine e_fl rfl rfl (fun hs_ => PF.mk rfl (v_field Try.underlying102 rfl fz3 rfl rfl) hs_) ?_
  refine e_fl rfl rfl (fun hs_ => PF.mk rfl (v_loadA ty3 rfl rfl) hs_) ?_
  by_cases h34 : told % (a + w) < a
  · first | refine e_fl rfl rfl (fun hs_ => PF.mk rfl (v_cmptA rfl rfl rfl) hs_) ?_ | refine e_fl rfl rfl (fun hs_ => PF.mk rfl (v_cmpfA rfl rfl rfl) hs_) ?_ | refine e_fl rfl rfl (fun hs_ => PF.mk rfl (v_cmp rfl rfl rfl) hs_) ?_
    refine e_done ?_
    refine post_next ?_
    refine code_cond_t rfl ?_
    refine code_region ?_
    refine op_v (v_move rfl) rfl ?_
    refine op_v (v_nilCheck rfl) rfl ?_
    first | refine op_v (v_fieldB 0 Try.underlying104 rfl rfl fz102 rfl) rfl ?_ | refine op_v (v_fieldI 0 Try.underlying104 rfl rfl fz102 rfl (by assumption)) rfl ?_ | refine op_v (v_field Try.underlying104 rfl fz102 rfl rfl) rfl ?_
    refine op_v (v_loadA ty102 rfl rfl) rfl ?_
    refine o_store ty102 rfl rfl rfl rfl rfl (by repeat (first | exact Swap.here | apply Swap.there)) rfl ?_
    refine ops_nil ?_
    refine post_next ?_
    refine code_seq ?_
    refine code_region ?_
    first | refine op_v (v_fieldB 0 Try.underlying102 rfl rfl fz48 rfl) rfl ?_ | refine op_v (v_fieldI 0 Try.underlying102 rfl rfl fz48 rfl (by assumption)) rfl ?_ | refine op_v (v_field Try.underlying102 rfl fz48 rfl rfl) rfl ?_
    refine op_v (v_loadA ty48 rfl rfl) rfl ?_
    refine op_call pl28 rfl rfl ((HMin_does (by omega))) (permA (l := [_, _]) (A := [_, _, _]) (W := [_, _, _])) ?_
    rintro v42 I42 _ hI42 ⟨rfl, rfl⟩
    refine OpsJ.view (View.perm (permA (l := [_, _]) (A := [_, _, _]) (W := [_, _, _])).symm) ?_
    refine op_v (v_move rfl) rfl ?_
    refine op_v (v_extract rfl rfl) rfl ?_
    refine op_v (v_extract rfl rfl) rfl ?_
    refine o_alloc z57 rfl rfl (fun b5 => ?_)
    refine o_store ty57 rfl rfl rfl rfl rfl (by repeat (first | exact Swap.here | apply Swap.there)) rfl ?_
    refine op_v (v_assign rfl) rfl ?_
    refine ops_nil ?_
    refine post_next ?_
    refine code_seq ?_
    refine code_seq ?_
    refine code_region ?_
    by_cases h45 : 0 < ys.length
    · have hys : decide (0 < ys.length) = true := decide_eq_true (by omega)
      have hxs : decide (0 < xs.length) = true := decide_eq_true (by omega)
      first | rw [hys] | rw [hxs]
      refine op_v (v_move rfl) rfl ?_
      refine op_v (v_not rfl) rfl ?_
      refine ops_nil ?_
      refine post_next ?_
      refine code_cond_f rfl ?_
      refine code_skip ?_
      refine post_next ?_
      refine code_seq ?_
      refine code_region ?_
      refine op_v (v_move rfl) rfl ?_
      refine op_v (v_nilCheck rfl) rfl ?_
      first | refine op_v (v_fieldB 4 Try.underlying104 rfl rfl fz3 rfl) rfl ?_ | refine op_v (v_fieldI 4 Try.underlying104 rfl rfl fz3 rfl (by assumption)) rfl ?_ | refine op_v (v_field Try.underlying104 rfl fz3 rfl rfl) rfl ?_
      refine op_v (v_loadA ty3 rfl rfl) rfl ?_
      refine op_v (v_addb (c := ((told + 1 : Nat) : Int)) rfl rfl (by omega) (by omega)) rfl ?_
      refine op_v (v_nilCheck rfl) rfl ?_
      first | refine op_v (v_fieldB 4 Try.underlying104 rfl rfl fz3 rfl) rfl ?_ | refine op_v (v_fieldI 4 Try.underlying104 rfl rfl fz3 rfl (by assumption)) rfl ?_ | refine op_v (v_field Try.underlying104 rfl fz3 rfl rfl) rfl ?_
      refine o_store ty3 rfl rfl rfl rfl rfl (by repeat (first | exact Swap.here | apply Swap.there)) rfl ?_
      refine ops_nil ?_
      refine post_next ?_
      refine code_seq ?_
      refine code_region ?_
      refine op_v (v_move rfl) rfl ?_
      first | refine op_v (v_fieldB 1 Try.underlying57 rfl rfl fz3 rfl) rfl ?_ | refine op_v (v_fieldI 1 Try.underlying57 rfl rfl fz3 rfl (by assumption)) rfl ?_ | refine op_v (v_field Try.underlying57 rfl fz3 rfl rfl) rfl ?_
      refine op_v (v_loadA ty3 rfl rfl) rfl ?_
      refine op_call pl37 rfl rfl ((QDrop_does (q := q) (a := a) (w := w) (told := told + 1) (ys := ys) ⟨Aa, ca, xs, mp, Aw, cw, mq, hok, rfl⟩)) (List.perm_append_comm (l₁ := [_, _])) ?_
      rintro v57 I57 δ57 hI57 ⟨b57, zs, rfl, hr, hQ⟩
      refine OpsJ.view (View.perm (List.perm_append_comm (l₂ := [_, _]))) ?_
      refine ops_nil ?_
      refine post_next ?_
      refine code_seq ?_
      refine code_region ?_
      first | refine op_v (v_fieldB 1 Try.underlying57 rfl rfl fz3 rfl) rfl ?_ | refine op_v (v_fieldI 1 Try.underlying57 rfl rfl fz3 rfl (by assumption)) rfl ?_ | refine op_v (v_field Try.underlying57 rfl fz3 rfl rfl) rfl ?_
      refine op_v (v_loadA ty3 rfl rfl) rfl ?_
      refine op_v (v_assign rfl) rfl ?_
      refine op_v (v_assign rfl) rfl ?_
      refine ops_nil ?_
      refine post_next ?_
      refine code_ret ?_
      refine post_ret (rs := [.tmp 2, .tmp 3]) rfl (List.Perm.refl _) (.cons (.tmp rfl) (.cons (.tmp rfl) .nil)) (List.Sublist.cons _ (List.Sublist.cons _ (List.Sublist.refl _))) ?_
      have hx0 : 0 < xs.length := by omega
      have hm1 : (gt xs 0).2 ∈ ys.map (·.2) := (hok.ids _).1 (List.mem_map_of_mem (f := fun x : It => x.2) (gt_mem hx0))
      have hm2 : (gt ys 0).2 ∈ ys.map (·.2) := List.mem_map_of_mem (f := fun x : It => x.2) (gt_mem h45)
      rcases hr with ⟨hno, _, _⟩ | ⟨y, hy, rfl, hp⟩
      · first | exact absurd hm1 hno | exact absurd hm2 hno
      have hym : y ∈ ys := hp.mem_iff.2 (List.mem_cons_self ..)
      refine .inr ⟨y, zs, hp, by rw [← hy]; rfl, ?_, hQ⟩
      exact NextQ_of hok h45 hym (by first | (rw [if_pos h34]; exact hy) | (rw [if_neg h34]; exact hy))
    · have hys : decide (0 < ys.length) = false := decide_eq_false (by omega)
      have hxs : decide (0 < xs.length) = false := decide_eq_false (by omega)
      first | rw [hys] | rw [hxs]
      refine op_v (v_move rfl) rfl ?_
      refine op_v (v_not rfl) rfl ?_
      refine ops_nil ?_
      refine post_next ?_
      refine code_cond_t rfl ?_
      refine code_seq ?_
      refine code_region ?_
      refine op_v (v_assign rfl) rfl ?_
      refine op_v (v_assign rfl) rfl ?_
      refine ops_nil ?_
      refine post_next ?_
      refine code_ret ?_
      refine post_ret_then ?_
      refine post_ret (rs := [.tmp 2, .tmp 3]) rfl (List.Perm.refl _) (.cons (.tmp rfl) (.cons (.tmp rfl) .nil)) (List.Sublist.cons _ (List.Sublist.cons _ (List.Sublist.refl _))) ?_
      have hy : ys = [] := List.eq_nil_of_length_eq_zero (by omega)
      subst hy
      exact .inl ⟨rfl, rfl, Aa, ca, xs, mp, Aw, cw, mq, hok, rfl⟩
  · first | refine e_fl rfl rfl (fun hs_ => PF.mk rfl (v_cmptA rfl rfl rfl) hs_) ?_ | refine e_fl rfl rfl (fun hs_ => PF.mk rfl (v_cmpfA rfl rfl rfl) hs_) ?_ | refine e_fl rfl rfl (fun hs_ => PF.mk rfl (v_cmp rfl rfl rfl) hs_) ?_
    refine e_done ?_
    refine post_next ?_
    refine code_cond_f rfl ?_
    refine code_skip ?_
    refine post_next ?_
    refine code_seq ?_
    refine code_region ?_
    first | refine op_v (v_fieldB 0 Try.underlying102 rfl rfl fz48 rfl) rfl ?_ | refine op_v (v_fieldI 0 Try.underlying102 rfl rfl fz48 rfl (by assumption)) rfl ?_ | refine op_v (v_field Try.underlying102 rfl fz48 rfl rfl) rfl ?_
    refine op_v (v_loadA ty48 rfl rfl) rfl ?_
    refine op_call pl28 rfl rfl ((HMin_does (by omega))) (permW (l := [_, _]) (A := [_, _, _]) (W := [_, _, _])) ?_
    rintro v42 I42 _ hI42 ⟨rfl, rfl⟩
    refine OpsJ.view (View.perm (permW (l := [_, _]) (A := [_, _, _]) (W := [_, _, _])).symm) ?_
    refine op_v (v_move rfl) rfl ?_
    refine op_v (v_extract rfl rfl) rfl ?_
    refine op_v (v_extract rfl rfl) rfl ?_
    refine o_alloc z57 rfl rfl (fun b5 => ?_)
    refine o_store ty57 rfl rfl rfl rfl rfl (by repeat (first | exact Swap.here | apply Swap.there)) rfl ?_
    refine op_v (v_assign rfl) rfl ?_
    refine ops_nil ?_
    refine post_next ?_
    refine code_seq ?_
    refine code_seq ?_
    refine code_region ?_
    by_cases h45 : 0 < ys.length
    · have hys : decide (0 < ys.length) = true := decide_eq_true (by omega)
      have hxs : decide (0 < xs.length) = true := decide_eq_true (by omega)
      first | rw [hys] | rw [hxs]
      refine op_v (v_move rfl) rfl ?_
      refine op_v (v_not rfl) rfl ?_
      refine ops_nil ?_
      refine post_next ?_
      refine code_cond_f rfl ?_
      refine code_skip ?_
      refine post_next ?_
      refine code_seq ?_
      refine code_region ?_
      refine op_v (v_move rfl) rfl ?_
      refine op_v (v_nilCheck rfl) rfl ?_
      first | refine op_v (v_fieldB 4 Try.underlying104 rfl rfl fz3 rfl) rfl ?_ | refine op_v (v_fieldI 4 Try.underlying104 rfl rfl fz3 rfl (by assumption)) rfl ?_ | refine op_v (v_field Try.underlying104 rfl fz3 rfl rfl) rfl ?_
      refine op_v (v_loadA ty3 rfl rfl) rfl ?_
      refine op_v (v_addb (c := ((told + 1 : Nat) : Int)) rfl rfl (by omega) (by omega)) rfl ?_
      refine op_v (v_nilCheck rfl) rfl ?_
      first | refine op_v (v_fieldB 4 Try.underlying104 rfl rfl fz3 rfl) rfl ?_ | refine op_v (v_fieldI 4 Try.underlying104 rfl rfl fz3 rfl (by assumption)) rfl ?_ | refine op_v (v_field Try.underlying104 rfl fz3 rfl rfl) rfl ?_
      refine o_store ty3 rfl rfl rfl rfl rfl (by repeat (first | exact Swap.here | apply Swap.there)) rfl ?_
      refine ops_nil ?_
      refine post_next ?_
      refine code_seq ?_
      refine code_region ?_
      refine op_v (v_move rfl) rfl ?_
      first | refine op_v (v_fieldB 1 Try.underlying57 rfl rfl fz3 rfl) rfl ?_ | refine op_v (v_fieldI 1 Try.underlying57 rfl rfl fz3 rfl (by assumption)) rfl ?_ | refine op_v (v_field Try.underlying57 rfl fz3 rfl rfl) rfl ?_
      refine op_v (v_loadA ty3 rfl rfl) rfl ?_
      refine op_call pl37 rfl rfl ((QDrop_does (q := q) (a := a) (w := w) (told := told + 1) (ys := ys) ⟨Aa, ca, xs, mp, Aw, cw, mq, hok, rfl⟩)) (List.perm_append_comm (l₁ := [_, _])) ?_
      rintro v57 I57 δ57 hI57 ⟨b57, zs, rfl, hr, hQ⟩
      refine OpsJ.view (View.perm (List.perm_append_comm (l₂ := [_, _]))) ?_
      refine ops_nil ?_
      refine post_next ?_
      refine code_seq ?_
      refine code_region ?_
      first | refine op_v (v_fieldB 1 Try.underlying57 rfl rfl fz3 rfl) rfl ?_ | refine op_v (v_fieldI 1 Try.underlying57 rfl rfl fz3 rfl (by assumption)) rfl ?_ | refine op_v (v_field Try.underlying57 rfl fz3 rfl rfl) rfl ?_
      refine op_v (v_loadA ty3 rfl rfl) rfl ?_
      refine op_v (v_assign rfl) rfl ?_
      refine op_v (v_assign rfl) rfl ?_
      refine ops_nil ?_
      refine post_next ?_
      refine code_ret ?_
      refine post_ret (rs := [.tmp 2, .tmp 3]) rfl (List.Perm.refl _) (.cons (.tmp rfl) (.cons (.tmp rfl) .nil)) (List.Sublist.cons _ (List.Sublist.cons _ (List.Sublist.refl _))) ?_
      have hx0 : 0 < xs.length := by omega
      have hm1 : (gt xs 0).2 ∈ ys.map (·.2) := (hok.ids _).1 (List.mem_map_of_mem (f := fun x : It => x.2) (gt_mem hx0))
      have hm2 : (gt ys 0).2 ∈ ys.map (·.2) := List.mem_map_of_mem (f := fun x : It => x.2) (gt_mem h45)
      rcases hr with ⟨hno, _, _⟩ | ⟨y, hy, rfl, hp⟩
      · first | exact absurd hm1 hno | exact absurd hm2 hno
      have hym : y ∈ ys := hp.mem_iff.2 (List.mem_cons_self ..)
      refine .inr ⟨y, zs, hp, by rw [← hy]; rfl, ?_, hQ⟩
      exact NextQ_of hok h45 hym (by first | (rw [if_pos h34]; exact hy) | (rw [if_neg h34]; exact hy))
    · have hys : decide (0 < ys.length) = false := decide_eq_false (by omega)
      have hxs : decide (0 < xs.length) = false := decide_eq_false (by omega)
      first | rw [hys] | rw [hxs]
      refine op_v (v_move rfl) rfl ?_
      refine op_v (v_not rfl) rfl ?_
      refine ops_nil ?_
      refine post_next ?_
      refine code_cond_t rfl ?_
      refine code_seq ?_
      refine code_region ?_
      refine op_v (v_assign rfl) rfl ?_
      refine op_v (v_assign rfl) rfl ?_
      refine ops_nil ?_
      refine post_next ?_
      refine code_ret ?_
      refine post_ret_then ?_
      refine post_ret (rs := [.tmp 2, .tmp 3]) rfl (List.Perm.refl _) (.cons (.tmp rfl) (.cons (.tmp rfl) .nil)) (List.Sublist.cons _ (List.Sublist.cons _ (List.Sublist.refl _))) ?_
      have hy : ys = [] := List.eq_nil_of_length_eq_zero (by omega)
      subst hy
      exact .inl ⟨rfl, rfl, Aa, ca, xs, mp, Aw, cw, mq, hok, rfl⟩
end Go.Proofs.Ythbcdffldcdfoaa
