/- Own texts, one behind the other: rules of a small program logic, walks through the program's functions, plain facts. No condition. -/
import Derived.Test.YthbcdffldcdfoaaZ2
import Derived.WalkKit
import Derived.ProofKit
import Derived.OpenShut
import Derived.ShutString
import Derived.ChangeOld
import Derived.ChangeSlices
import Derived.Below
import Derived.Carry
import Derived.SizedLaws
/- Walks: the next one of a queue. -/
set_option linter.unusedVariables false
set_option linter.unusedSimpArgs false
set_option linter.unnecessarySimpa false
/- short -/
namespace Go.Proofs.Ythbcdffldcdfoaa
open Go Lg

theorem permA {l A W : List Ent} : (l ++ (A ++ W)).Perm (A ++ (l ++ W)) := by
  rw [← List.append_assoc, ← List.append_assoc]; exact List.perm_append_comm.append_right W
theorem permW {l A W : List Ent} : (l ++ (A ++ W)).Perm (W ++ (l ++ A)) := by
  rw [← List.append_assoc]; exact List.perm_append_comm
theorem min_mem {xs : List It} (h : IsHeap xs) {x : It} (hx : x ∈ xs) : leI (gt xs 0) x := by
  obtain ⟨j, hj, rfl⟩ := List.getElem_of_mem hx
  rw [← gt_at hj]; exact heap_min h j j (Nat.le_refl _) hj
theorem gt_mem {xs : List It} (h : 0 < xs.length) : gt xs 0 ∈ xs := by rw [gt_at h]; exact List.getElem_mem h
theorem id_inj {xs : List It} {mp : Mp} (h : AtOK xs mp) {x y : It} (hx : x ∈ xs) (hy : y ∈ xs) (e : x.2 = y.2) : x = y := by
  obtain ⟨i, hi, rfl⟩ := List.getElem_of_mem hx
  obtain ⟨j, hj, rfl⟩ := List.getElem_of_mem hy
  have := h.inj hi hj (by rw [gt_at hi, gt_at hj]; exact e)
  subst this; rfl
def NextQ (a w told : Nat) (ys : List It) (y : It) : Prop := if told % (a + w) < a then ∀ z ∈ ys, y.2 ≤ z.2 else ∀ z ∈ ys, leI y z
theorem NextQ_of {a w told : Nat} {xs ys : List It} {mp mq : Mp} {y : It} (hok : QOK xs ys mp mq) (h45 : 0 < ys.length) (hym : y ∈ ys) (hy : y.2 = if told % (a + w) < a then (gt xs 0).2 else (gt ys 0).2) : NextQ a w told ys y := by
  have hx0 : 0 < xs.length := by rw [hok.len]; exact h45
  unfold NextQ
  by_cases h34 : told % (a + w) < a
  · rw [if_pos h34] at hy ⊢
    intro z hz
    obtain ⟨x', hx', hxz⟩ := List.mem_map.1 ((hok.ids z.2).2 (List.mem_map_of_mem (f := fun x : It => x.2) hz))
    have h1 := min_mem hok.hx hx'
    have h2 := hok.eq _ (gt_mem hx0)
    have h3 := hok.eq _ hx'
    change x'.2 = z.2 at hxz
    unfold leI at h1
    rw [hy, ← hxz]; omega
  · rw [if_neg h34] at hy ⊢
    intro z hz
    have : y = gt ys 0 := id_inj hok.oy hym (gt_mem h45) hy
    rw [this]; exact min_mem hok.hy hz
theorem QNext_does {I : Imm} {q : Qa} {a w told : Nat} {ys : List It} {δ : List Ent} (hq : QE q a w told ys δ) (ha : a ≤ 16) (hw : w ≤ 16) (haw : 0 < a + w) (ht : told ≤ 1000000) :
    Does Try.prog 35 [.pointer (some ⟨q.qb, 0, none⟩)] I δ (fun v _ δ' => (ys = [] ∧ v = .tuple #[.int .i64 0, .bool false] ∧ QE q a w told [] δ') ∨ ∃ y zs, ys.Perm (y :: zs) ∧ v = .tuple #[.int .i64 y.2, .bool true] ∧ NextQ a w told ys y ∧ QE q a w (told + 1) zs δ') := by
  obtain ⟨Aa, ca, xs, mp, Aw, cw, mq, hok, rfl⟩ := hq
  have hlen := hok.len
  have hlx := hok.lx
  refine Does.intro Try.func35 rfl Try.ntmps35 rfl fun w0 => ?_
  refine code_seq ?_
  refine code_region ?_
  refine op_v (v_assign rfl) rfl ?_
  refine op_v (v_assign rfl) rfl ?_
  refine ops_nil ?_
  refine post_next ?_
  refine code_seq ?_
  refine code_seq ?_
  refine code_region ?_
  refine op_v (v_move rfl) rfl ?_
  refine op_v (v_ptrq (z := false) Try.underlying62 rfl rfl rfl) rfl ?_
  refine ops_nil ?_
  refine post_next ?_
  refine code_cond_f rfl ?_
  refine code_skip ?_
  refine post_next ?_
  refine code_seq ?_
  refine code_region ?_
  refine op_v (v_move rfl) rfl ?_
  refine op_v (v_nilCheck rfl) rfl ?_
  first | refine op_v (v_fieldB 2 Try.underlying104 rfl rfl fz102 rfl) rfl ?_ | refine op_v (v_fieldI 2 Try.underlying104 rfl rfl fz102 rfl (by assumption)) rfl ?_ | refine op_v (v_field Try.underlying104 rfl fz102 rfl rfl) rfl ?_
  refine op_v (v_loadA ty102 rfl rfl) rfl ?_
  refine o_alloc z102 rfl rfl (fun b4 => ?_)
  refine o_store ty102 rfl rfl rfl rfl rfl (by repeat (first | exact Swap.here | apply Swap.there)) rfl ?_
  refine ops_nil ?_
  refine post_next ?_
  refine code_seq ?_
  refine code_seq ?_
  refine code_draw (.fl 0 (.fl 1 (.fl 2 (.fl 3 (.fl 4 (.fl 5 (.fl 6 (.fl 7 (.fl 8 (.fl 9 (.fl 10 (.fl 11 (.fl 12 (.fl 13 (.fl 14 (.fl 15 (.fl 16 (.fl 17 (.fl 18 (.fl 19 (.fl 20 (.fl 21 .done)))))))))))))))))))))) (fun _ => _) mixed (by kernel_rfl) (by kernel_rfl) (fun _ => (List.Sublist.refl _)) ?_
  refine e_fl rfl rfl (fun hs_ => PF.mk rfl (v_move rfl) hs_) ?_
  refine e_fl rfl rfl (fun hs_ => PF.mk rfl (v_nilCheck rfl) hs_) ?_
  first | refine e_fl rfl rfl (fun hs_ => PF.mk rfl (v_fieldB 4 Try.underlying104 rfl rfl fz3 rfl) hs_) ?_ | refine e_fl rfl rfl (fun hs_ => PF.mk rfl (v_fieldI 4 Try.underlying104 rfl rfl fz3 rfl (by assumption)) hs_) ?_ | refine e_fl rfl rfl (fun hs_ => PF.mk rfl (v_field Try.underlying104 rfl fz3 rfl rfl) hs_) ?_
  refine e_fl rfl rfl (fun hs_ => PF.mk rfl (v_loadA ty3 rfl rfl) hs_) ?_
  refine e_fl rfl rfl (fun hs_ => PF.mk rfl (v_move rfl) hs_) ?_
  refine e_fl rfl rfl (fun hs_ => PF.mk rfl (v_nilCheck rfl) hs_) ?_
  first | refine e_fl rfl rfl (fun hs_ => PF.mk rfl (v_fieldB 0 Try.underlying104 rfl rfl fz102 rfl) hs_) ?_ | refine e_fl rfl rfl (fun hs_ => PF.mk rfl (v_fieldI 0 Try.underlying104 rfl rfl fz102 rfl (by assumption)) hs_) ?_ | refine e_fl rfl rfl (fun hs_ => PF.mk rfl (v_field Try.underlying104 rfl fz102 rfl rfl) hs_) ?_
  first | refine e_fl rfl rfl (fun hs_ => PF.mk rfl (v_fieldB 1 Try.underlying102 rfl rfl fz3 rfl) hs_) ?_ | refine e_fl rfl rfl (fun hs_ => PF.mk rfl (v_fieldI 1 Try.underlying102 rfl rfl fz3 rfl (by assumption)) hs_) ?_ | refine e_fl rfl rfl (fun hs_ => PF.mk rfl (v_field Try.underlying102 rfl fz3 rfl rfl) hs_) ?_
  refine e_fl rfl rfl (fun hs_ => PF.mk rfl (v_loadA ty3 rfl rfl) hs_) ?_
  refine e_fl rfl rfl (fun hs_ => PF.mk rfl (v_move rfl) hs_) ?_
  refine e_fl rfl rfl (fun hs_ => PF.mk rfl (v_nilCheck rfl) hs_) ?_
  first | refine e_fl rfl rfl (fun hs_ => PF.mk rfl (v_fieldB 2 Try.underlying104 rfl rfl fz102 rfl) hs_) ?_ | refine e_fl rfl rfl (fun hs_ => PF.mk rfl (v_fieldI 2 Try.underlying104 rfl rfl fz102 rfl (by assumption)) hs_) ?_ | refine e_fl rfl rfl (fun hs_ => PF.mk rfl (v_field Try.underlying104 rfl fz102 rfl rfl) hs_) ?_
  first | refine e_fl rfl rfl (fun hs_ => PF.mk rfl (v_fieldB 1 Try.underlying102 rfl rfl fz3 rfl) hs_) ?_ | refine e_fl rfl rfl (fun hs_ => PF.mk rfl (v_fieldI 1 Try.underlying102 rfl rfl fz3 rfl (by assumption)) hs_) ?_ | refine e_fl rfl rfl (fun hs_ => PF.mk rfl (v_field Try.underlying102 rfl fz3 rfl rfl) hs_) ?_
  refine e_fl rfl rfl (fun hs_ => PF.mk rfl (v_loadA ty3 rfl rfl) hs_) ?_
  refine e_fl rfl rfl (fun hs_ => PF.mk rfl (v_addb (c := ((a + w : Nat) : Int)) rfl rfl (by omega) (by omega)) hs_) ?_
  refine e_fl rfl rfl (fun hs_ => PF.mk rfl (v_remb (c := ((told % (a + w) : Nat) : Int)) rfl rfl (by omega) rfl) hs_) ?_
  refine e_fl rfl rfl (fun hs_ => PF.mk rfl (v_move rfl) hs_) ?_
  refine e_fl rfl rfl (fun hs_ => PF.mk rfl (v_nilCheck rfl) hs_) ?_
  first | refine e_fl rfl rfl (fun hs_ => PF.mk rfl (v_fieldB 0 Try.underlying104 rfl rfl fz102 rfl) hs_) ?_ | refine e_fl rfl rfl (fun hs_ => PF.mk rfl (v_fieldI 0 Try.underlying104 rfl rfl fz102 rfl (by assumption)) hs_) ?_ | refine e_fl rfl rfl (fun hs_ => PF.mk rfl (v_field Try.underlying104 rfl fz102 rfl rfl) hs_) ?_
  first | refine e_fl rfl rfl (fun hs_ => PF.mk rfl (v_fieldB 1 Try.underlying102 rfl rfl fz3 rfl) hs_) ?_ | refine e_fl rfl rfl (fun hs_ => PF.mk rfl (v_fieldI 1 Try.underlying102 rfl rfl fz3 rfl (by assumption)) hs_) ?_ | refine e_fl rfl rfl (fun hs_ => PF.mk rfl (v_field Try.underlying102 rfl fz3 rfl rfl) hs_) ?_
  refine e_fl rfl rfl (fun hs_ => PF.mk rfl (v_loadA ty3 rfl rfl) hs_) ?_
  by_cases h34 : told % (a + w) < a
  · first | refine e_fl rfl rfl (fun hs_ => PF.mk rfl (v_cmptA rfl rfl rfl) hs_) ?_ | refine e_fl rfl rfl (fun hs_ => PF.mk rfl (v_cmpfA rfl rfl rfl) hs_) ?_ | refine e_fl rfl rfl (fun hs_ => PF.mk rfl (v_cmp rfl rfl rfl) hs_) ?_
    refine e_done ?_
    refine post_next ?_
    refine code_cond_t rfl ?_
    refine code_region ?_
    refine op_v (v_move rfl) rfl ?_
    refine op_v (v_nilCheck rfl) rfl ?_
    first | refine op_v (v_fieldB 0 Try.underlying104 rfl rfl fz102 rfl) rfl ?_ | refine op_v (v_fieldI 0 Try.underlying104 rfl rfl fz102 rfl (by assumption)) rfl ?_ | refine op_v (v_field Try.underlying104 rfl fz102 rfl rfl) rfl ?_
    refine op_v (v_loadA ty102 rfl rfl) rfl ?_
    refine o_store ty102 rfl rfl rfl rfl rfl (by repeat (first | exact Swap.here | apply Swap.there)) rfl ?_
    refine ops_nil ?_
    refine post_next ?_
    refine code_seq ?_
    refine code_region ?_
    first | refine op_v (v_fieldB 0 Try.underlying102 rfl rfl fz48 rfl) rfl ?_ | refine op_v (v_fieldI 0 Try.underlying102 rfl rfl fz48 rfl (by assumption)) rfl ?_ | refine op_v (v_field Try.underlying102 rfl fz48 rfl rfl) rfl ?_
    refine op_v (v_loadA ty48 rfl rfl) rfl ?_
    refine op_call pl28 rfl rfl ((HMin_does (by omega))) (permA (l := [_, _]) (A := [_, _, _]) (W := [_, _, _])) ?_
    rintro v42 I42 _ hI42 ⟨rfl, rfl⟩
    refine OpsJ.view (View.perm (permA (l := [_, _]) (A := [_, _, _]) (W := [_, _, _])).symm) ?_
    refine op_v (v_move rfl) rfl ?_
    refine op_v (v_extract rfl rfl) rfl ?_
    refine op_v (v_extract rfl rfl) rfl ?_
    refine o_alloc z57 rfl rfl (fun b5 => ?_)
    refine o_store ty57 rfl rfl rfl rfl rfl (by repeat (first | exact Swap.here | apply Swap.there)) rfl ?_
    refine op_v (v_assign rfl) rfl ?_
    refine ops_nil ?_
    refine post_next ?_
    refine code_seq ?_
    refine code_seq ?_
    refine code_region ?_
    by_cases h45 : 0 < ys.length
    · have hys : decide (0 < ys.length) = true := decide_eq_true (by omega)
      have hxs : decide (0 < xs.length) = true := decide_eq_true (by omega)
      first | rw [hys] | rw [hxs]
      refine op_v (v_move rfl) rfl ?_
      refine op_v (v_not rfl) rfl ?_
      refine ops_nil ?_
      refine post_next ?_
      refine code_cond_f rfl ?_
      refine code_skip ?_
      refine post_next ?_
      refine code_seq ?_
      refine code_region ?_
      refine op_v (v_move rfl) rfl ?_
      refine op_v (v_nilCheck rfl) rfl ?_
      first | refine op_v (v_fieldB 4 Try.underlying104 rfl rfl fz3 rfl) rfl ?_ | refine op_v (v_fieldI 4 Try.underlying104 rfl rfl fz3 rfl (by assumption)) rfl ?_ | refine op_v (v_field Try.underlying104 rfl fz3 rfl rfl) rfl ?_
      refine op_v (v_loadA ty3 rfl rfl) rfl ?_
      refine op_v (v_addb (c := ((told + 1 : Nat) : Int)) rfl rfl (by omega) (by omega)) rfl ?_
      refine op_v (v_nilCheck rfl) rfl ?_
      first | refine op_v (v_fieldB 4 Try.underlying104 rfl rfl fz3 rfl) rfl ?_ | refine op_v (v_fieldI 4 Try.underlying104 rfl rfl fz3 rfl (by assumption)) rfl ?_ | refine op_v (v_field Try.underlying104 rfl fz3 rfl rfl) rfl ?_
      refine o_store ty3 rfl rfl rfl rfl rfl (by repeat (first | exact Swap.here | apply Swap.there)) rfl ?_
      refine ops_nil ?_
      refine post_next ?_
      refine code_seq ?_
      refine code_region ?_
      refine op_v (v_move rfl) rfl ?_
      first | refine op_v (v_fieldB 1 Try.underlying57 rfl rfl fz3 rfl) rfl ?_ | refine op_v (v_fieldI 1 Try.underlying57 rfl rfl fz3 rfl (by assumption)) rfl ?_ | refine op_v (v_field Try.underlying57 rfl fz3 rfl rfl) rfl ?_
      refine op_v (v_loadA ty3 rfl rfl) rfl ?_
      refine op_call pl37 rfl rfl ((QDrop_does (q := q) (a := a) (w := w) (told := told + 1) (ys := ys) ⟨Aa, ca, xs, mp, Aw, cw, mq, hok, rfl⟩)) (List.perm_append_comm (l₁ := [_, _])) ?_
      rintro v57 I57 δ57 hI57 ⟨b57, zs, rfl, hr, hQ⟩
      refine OpsJ.view (View.perm (List.perm_append_comm (l₂ := [_, _]))) ?_
      refine ops_nil ?_
      refine post_next ?_
      refine code_seq ?_
      refine code_region ?_
      first | refine op_v (v_fieldB 1 Try.underlying57 rfl rfl fz3 rfl) rfl ?_ | refine op_v (v_fieldI 1 Try.underlying57 rfl rfl fz3 rfl (by assumption)) rfl ?_ | refine op_v (v_field Try.underlying57 rfl fz3 rfl rfl) rfl ?_
      refine op_v (v_loadA ty3 rfl rfl) rfl ?_
      refine op_v (v_assign rfl) rfl ?_
      refine op_v (v_assign rfl) rfl ?_
      refine ops_nil ?_
      refine post_next ?_
      refine code_ret ?_
      refine post_ret (rs := [.tmp 2, .tmp 3]) rfl (List.Perm.refl _) (.cons (.tmp rfl) (.cons (.tmp rfl) .nil)) (List.Sublist.cons _ (List.Sublist.cons _ (List.Sublist.refl _))) ?_
      have hx0 : 0 < xs.length := by omega
      have hm1 : (gt xs 0).2 ∈ ys.map (·.2) := (hok.ids _).1 (List.mem_map_of_mem (f := fun x : It => x.2) (gt_mem hx0))
      have hm2 : (gt ys 0).2 ∈ ys.map (·.2) := List.mem_map_of_mem (f := fun x : It => x.2) (gt_mem h45)
      rcases hr with ⟨hno, _, _⟩ | ⟨y, hy, rfl, hp⟩
      · first | exact absurd hm1 hno | exact absurd hm2 hno
      have hym : y ∈ ys := hp.mem_iff.2 (List.mem_cons_self ..)
      refine .inr ⟨y, zs, hp, by rw [← hy]; rfl, ?_, hQ⟩
      exact NextQ_of hok h45 hym (by first | (rw [if_pos h34]; exact hy) | (rw [if_neg h34]; exact hy))
    · have hys : decide (0 < ys.length) = false := decide_eq_false (by omega)
      have hxs : decide (0 < xs.length) = false := decide_eq_false (by omega)
      first | rw [hys] | rw [hxs]
      refine op_v (v_move rfl) rfl ?_
      refine op_v (v_not rfl) rfl ?_
      refine ops_nil ?_
      refine post_next ?_
      refine code_cond_t rfl ?_
      refine code_seq ?_
      refine code_region ?_
      refine op_v (v_assign rfl) rfl ?_
      refine op_v (v_assign rfl) rfl ?_
      refine ops_nil ?_
      refine post_next ?_
      refine code_ret ?_
      refine post_ret_then ?_
      refine post_ret (rs := [.tmp 2, .tmp 3]) rfl (List.Perm.refl _) (.cons (.tmp rfl) (.cons (.tmp rfl) .nil)) (List.Sublist.cons _ (List.Sublist.cons _ (List.Sublist.refl _))) ?_
      have hy : ys = [] := List.eq_nil_of_length_eq_zero (by omega)
      subst hy
      exact .inl ⟨rfl, rfl, Aa, ca, xs, mp, Aw, cw, mq, hok, rfl⟩
  · first | refine e_fl rfl rfl (fun hs_ => PF.mk rfl (v_cmptA rfl rfl rfl) hs_) ?_ | refine e_fl rfl rfl (fun hs_ => PF.mk rfl (v_cmpfA rfl rfl rfl) hs_) ?_ | refine e_fl rfl rfl (fun hs_ => PF.mk rfl (v_cmp rfl rfl rfl) hs_) ?_
    refine e_done ?_
    refine post_next ?_
    refine code_cond_f rfl ?_
    refine code_skip ?_
    refine post_next ?_
    refine code_seq ?_
    refine code_region ?_
    first | refine op_v (v_fieldB 0 Try.underlying102 rfl rfl fz48 rfl) rfl ?_ | refine op_v (v_fieldI 0 Try.underlying102 rfl rfl fz48 rfl (by assumption)) rfl ?_ | refine op_v (v_field Try.underlying102 rfl fz48 rfl rfl) rfl ?_
    refine op_v (v_loadA ty48 rfl rfl) rfl ?_
    refine op_call pl28 rfl rfl ((HMin_does (by omega))) (permW (l := [_, _]) (A := [_, _, _]) (W := [_, _, _])) ?_
    rintro v42 I42 _ hI42 ⟨rfl, rfl⟩
    refine OpsJ.view (View.perm (permW (l := [_, _]) (A := [_, _, _]) (W := [_, _, _])).symm) ?_
    refine op_v (v_move rfl) rfl ?_
    refine op_v (v_extract rfl rfl) rfl ?_
    refine op_v (v_extract rfl rfl) rfl ?_
    refine o_alloc z57 rfl rfl (fun b5 => ?_)
    refine o_store ty57 rfl rfl rfl rfl rfl (by repeat (first | exact Swap.here | apply Swap.there)) rfl ?_
    refine op_v (v_assign rfl) rfl ?_
    refine ops_nil ?_
    refine post_next ?_
    refine code_seq ?_
    refine code_seq ?_
    refine code_region ?_
    by_cases h45 : 0 < ys.length
    · have hys : decide (0 < ys.length) = true := decide_eq_true (by omega)
      have hxs : decide (0 < xs.length) = true := decide_eq_true (by omega)
      first | rw [hys] | rw [hxs]
      refine op_v (v_move rfl) rfl ?_
      refine op_v (v_not rfl) rfl ?_
      refine ops_nil ?_
      refine post_next ?_
      refine code_cond_f rfl ?_
      refine code_skip ?_
      refine post_next ?_
      refine code_seq ?_
      refine code_region ?_
      refine op_v (v_move rfl) rfl ?_
      refine op_v (v_nilCheck rfl) rfl ?_
      first | refine op_v (v_fieldB 4 Try.underlying104 rfl rfl fz3 rfl) rfl ?_ | refine op_v (v_fieldI 4 Try.underlying104 rfl rfl fz3 rfl (by assumption)) rfl ?_ | refine op_v (v_field Try.underlying104 rfl fz3 rfl rfl) rfl ?_
      refine op_v (v_loadA ty3 rfl rfl) rfl ?_
      refine op_v (v_addb (c := ((told + 1 : Nat) : Int)) rfl rfl (by omega) (by omega)) rfl ?_
      refine op_v (v_nilCheck rfl) rfl ?_
      first | refine op_v (v_fieldB 4 Try.underlying104 rfl rfl fz3 rfl) rfl ?_ | refine op_v (v_fieldI 4 Try.underlying104 rfl rfl fz3 rfl (by assumption)) rfl ?_ | refine op_v (v_field Try.underlying104 rfl fz3 rfl rfl) rfl ?_
      refine o_store ty3 rfl rfl rfl rfl rfl (by repeat (first | exact Swap.here | apply Swap.there)) rfl ?_
      refine ops_nil ?_
      refine post_next ?_
      refine code_seq ?_
      refine code_region ?_
      refine op_v (v_move rfl) rfl ?_
      first | refine op_v (v_fieldB 1 Try.underlying57 rfl rfl fz3 rfl) rfl ?_ | refine op_v (v_fieldI 1 Try.underlying57 rfl rfl fz3 rfl (by assumption)) rfl ?_ | refine op_v (v_field Try.underlying57 rfl fz3 rfl rfl) rfl ?_
      refine op_v (v_loadA ty3 rfl rfl) rfl ?_
      refine op_call pl37 rfl rfl ((QDrop_does (q := q) (a := a) (w := w) (told := told + 1) (ys := ys) ⟨Aa, ca, xs, mp, Aw, cw, mq, hok, rfl⟩)) (List.perm_append_comm (l₁ := [_, _])) ?_
      rintro v57 I57 δ57 hI57 ⟨b57, zs, rfl, hr, hQ⟩
      refine OpsJ.view (View.perm (List.perm_append_comm (l₂ := [_, _]))) ?_
      refine ops_nil ?_
      refine post_next ?_
      refine code_seq ?_
      refine code_region ?_
      first | refine op_v (v_fieldB 1 Try.underlying57 rfl rfl fz3 rfl) rfl ?_ | refine op_v (v_fieldI 1 Try.underlying57 rfl rfl fz3 rfl (by assumption)) rfl ?_ | refine op_v (v_field Try.underlying57 rfl fz3 rfl rfl) rfl ?_
      refine op_v (v_loadA ty3 rfl rfl) rfl ?_
      refine op_v (v_assign rfl) rfl ?_
      refine op_v (v_assign rfl) rfl ?_
      refine ops_nil ?_
      refine post_next ?_
      refine code_ret ?_
      refine post_ret (rs := [.tmp 2, .tmp 3]) rfl (List.Perm.refl _) (.cons (.tmp rfl) (.cons (.tmp rfl) .nil)) (List.Sublist.cons _ (List.Sublist.cons _ (List.Sublist.refl _))) ?_
      have hx0 : 0 < xs.length := by omega
      have hm1 : (gt xs 0).2 ∈ ys.map (·.2) := (hok.ids _).1 (List.mem_map_of_mem (f := fun x : It => x.2) (gt_mem hx0))
      have hm2 : (gt ys 0).2 ∈ ys.map (·.2) := List.mem_map_of_mem (f := fun x : It => x.2) (gt_mem h45)
      rcases hr with ⟨hno, _, _⟩ | ⟨y, hy, rfl, hp⟩
      · first | exact absurd hm1 hno | exact absurd hm2 hno
      have hym : y ∈ ys := hp.mem_iff.2 (List.mem_cons_self ..)
      refine .inr ⟨y, zs, hp, by rw [← hy]; rfl, ?_, hQ⟩
      exact NextQ_of hok h45 hym (by first | (rw [if_pos h34]; exact hy) | (rw [if_neg h34]; exact hy))
    · have hys : decide (0 < ys.length) = false := decide_eq_false (by omega)
      have hxs : decide (0 < xs.length) = false := decide_eq_false (by omega)
      first | rw [hys] | rw [hxs]
      refine op_v (v_move rfl) rfl ?_
      refine op_v (v_not rfl) rfl ?_
      refine ops_nil ?_
      refine post_next ?_
      refine code_cond_t rfl ?_
      refine code_seq ?_
      refine code_region ?_
      refine op_v (v_assign rfl) rfl ?_
      refine op_v (v_assign rfl) rfl ?_
      refine ops_nil ?_
      refine post_next ?_
      refine code_ret ?_
      refine post_ret_then ?_
      refine post_ret (rs := [.tmp 2, .tmp 3]) rfl (List.Perm.refl _) (.cons (.tmp rfl) (.cons (.tmp rfl) .nil)) (List.Sublist.cons _ (List.Sublist.cons _ (List.Sublist.refl _))) ?_
      have hy : ys = [] := List.eq_nil_of_length_eq_zero (by omega)
      subst hy
      exact .inl ⟨rfl, rfl, Aa, ca, xs, mp, Aw, cw, mq, hok, rfl⟩
end Go.Proofs.Ythbcdffldcdfoaa
/- Walks: the example of the chapter on heaps. -/
set_option linter.unusedVariables false
set_option linter.unusedSimpArgs false
set_option linter.unnecessarySimpa false
/- short -/
namespace Go.Proofs.Ythbcdffldcdfoaa
open Go Lg

theorem PutH.ok {xs ys zs : List It} {x : It} {e : Int} (h : PutH xs x e ys) (hp : xs.Perm zs) (hn : x.2 ∉ zs.map (·.2)) (hl : zs.length < 4096) : e = 0 ∧ ys.Perm (zs ++ [x]) := by
  have hlen := hp.length_eq
  have hm : x.2 ∉ xs.map (·.2) := fun q => hn ((hp.map (fun x : It => x.2)).mem_iff.1 q)
  rcases h with ⟨h1, _⟩ | ⟨_, h1, _⟩ | ⟨_, _, h1, h2⟩
  · exact absurd h1 hm
  · omega
  · exact ⟨h1, h2.trans (hp.append_right _)⟩
def q9 (n : Nat) : List It := (List.range n).map fun j : Nat => ((9 : Int) - j, (j : Int))
theorem q9_succ (n : Nat) : q9 (n + 1) = q9 n ++ [((9 : Int) - n, (n : Int))] := by simp [q9, List.range_succ]
theorem q9_new (n : Nat) : (n : Int) ∉ (q9 n).map (·.2) := by
  intro h
  simp only [q9, List.map_map, List.mem_map, List.mem_range, Function.comp] at h
  obtain ⟨j, hj, e⟩ := h
  omega
theorem q9_len (n : Nat) : (q9 n).length = n := by simp [q9]
theorem awake18_does (I : Imm) :
    Does Try.prog 31 [] I [] (fun v I' δ' => v = .bool true ∧ δ' = []) := by
  refine Does.intro Try.func31 rfl Try.ntmps31 rfl fun w0 => ?_
  refine code_seq ?_
  refine code_region ?_
  refine op_v (v_assign rfl) rfl ?_
  refine ops_nil ?_
  refine post_next ?_
  refine code_seq ?_
  refine code_region ?_
  refine op_call pl23 rfl rfl ((HNew_does _)) Parts.none ?_
  rintro v11 I11 _ hI11 ⟨hb, mb, rfl, rfl⟩
  refine op_v (v_assign rfl) rfl ?_
  refine ops_nil ?_
  refine post_next ?_
  refine code_seq ?_
  refine code_region ?_
  refine op_call pl32 rfl rfl ((Ratio_does)) Parts.none ?_
  rintro v13 I13 δ13 hI13 HR13
  obtain ⟨q, rfl, hQ⟩ : ∃ q, v13 = .tuple #[.pointer (some ⟨q.qb, 0, none⟩), .int .i64 0] ∧ QE q 1 1 0 [] δ13 := by
    rcases HR13 with ⟨h, _⟩ | ⟨_, h⟩
    · omega
    · exact h
  refine op_v (v_move rfl) rfl ?_
  refine op_v (v_extract rfl rfl) rfl ?_
  refine op_v (v_extract rfl rfl) rfl ?_
  refine op_v (v_assign rfl) rfl ?_
  refine op_v (v_assign rfl) rfl ?_
  refine ops_nil ?_
  refine post_next ?_
  refine code_seq ?_
  refine code_seq ?_
  refine code_region ?_
  refine op_v (v_move rfl) rfl ?_
  refine op_v (v_ptrq (z := false) Try.underlying48 rfl rfl rfl) rfl ?_
  refine op_v (v_move rfl) rfl ?_
  first
    | (refine op_want rfl rfl ?_
       refine op_v (v_move rfl) rfl ?_)
    | (refine op_skip rfl rfl (by simp [undef]) rfl ?_)
  first
    | (refine op_want rfl rfl ?_
       refine op_v (v_ptrq (z := false) Try.underlying62 rfl rfl rfl) rfl ?_)
    | (refine op_skip rfl rfl (by simp [undef]) rfl ?_)
  first | refine op_v (v_pickt rfl rfl) rfl ?_ | refine op_v (v_pickf rfl rfl) rfl ?_ | refine op_v (v_pickb rfl rfl rfl) rfl ?_
  refine op_v (v_move rfl) rfl ?_
  first
    | (refine op_want rfl rfl ?_
       refine op_v (v_move rfl) rfl ?_)
    | (refine op_skip rfl rfl (by simp [undef]) rfl ?_)
  first
    | (refine op_want rfl rfl ?_
       first | refine op_v (v_cmptA rfl rfl rfl) rfl ?_ | refine op_v (v_cmpfA rfl rfl rfl) rfl ?_ | refine op_v (v_cmp rfl rfl rfl) rfl ?_)
    | (refine op_skip rfl rfl (by simp [undef]) rfl ?_)
  first | refine op_v (v_pickt rfl rfl) rfl ?_ | refine op_v (v_pickf rfl rfl) rfl ?_ | refine op_v (v_pickb rfl rfl rfl) rfl ?_
  refine op_v (v_move rfl) rfl ?_
  first
    | (refine op_want rfl rfl ?_
       refine op_v (v_move rfl) rfl ?_)
    | (refine op_skip rfl rfl (by simp [undef]) rfl ?_)
  first
    | (refine op_want rfl rfl ?_
       refine op_v (v_build (cs := [.int .i64 5, .int .i64 1]) bl57 rfl rfl) rfl ?_)
    | (refine op_skip rfl rfl (by simp [undef]) rfl ?_)
  first
    | (refine op_want rfl rfl ?_
       refine op_call pl24 rfl rfl ((HPut_does (x := (5, 1)) (by simp) ⟨(fun j h => absurd h (by simp)), fun _ _ => rfl⟩ (fun j _ h => absurd h (by simp)))) (List.perm_append_comm (l₁ := δ13) (l₂ := [_, _, _])) ?_
       rintro v29 I29 _ hI29 ⟨e29, A29, c29, ys29, mq29, rfl, hr29, hl29, ho29, hh29, rfl⟩
       obtain ⟨rfl, hp29⟩ := hr29.ok (zs := []) (List.Perm.refl _) (by simp) (by simp))
    | (refine op_skip rfl rfl (by simp [undef]) rfl ?_)
  first
    | (refine op_want rfl rfl ?_
       first | refine op_v (v_cmptA rfl rfl rfl) rfl ?_ | refine op_v (v_cmpfA rfl rfl rfl) rfl ?_ | refine op_v (v_cmp rfl rfl rfl) rfl ?_)
    | (refine op_skip rfl rfl (by simp [undef]) rfl ?_)
  first | refine op_v (v_pickt rfl rfl) rfl ?_ | refine op_v (v_pickf rfl rfl) rfl ?_ | refine op_v (v_pickb rfl rfl rfl) rfl ?_
  refine op_v (v_move rfl) rfl ?_
  first
    | (refine op_want rfl rfl ?_
       refine op_v (v_move rfl) rfl ?_)
    | (refine op_skip rfl rfl (by simp [undef]) rfl ?_)
  first
    | (refine op_want rfl rfl ?_
       refine op_v (v_build (cs := [.int .i64 2, .int .i64 9]) bl57 rfl rfl) rfl ?_)
    | (refine op_skip rfl rfl (by simp [undef]) rfl ?_)
  first
    | (refine op_want rfl rfl ?_
       refine op_call pl24 rfl rfl ((HPut_does (x := (2, 9)) hl29 ho29 hh29)) (List.Perm.refl _) ?_
       rintro v35 I35 _ hI35 ⟨e35, A35, c35, ys35, mq35, rfl, hr35, hl35, ho35, hh35, rfl⟩
       obtain ⟨rfl, hp35⟩ := hr35.ok hp29 (by decide) (by decide))
    | (refine op_skip rfl rfl (by simp [undef]) rfl ?_)
  first
    | (refine op_want rfl rfl ?_
       first | refine op_v (v_cmptA rfl rfl rfl) rfl ?_ | refine op_v (v_cmpfA rfl rfl rfl) rfl ?_ | refine op_v (v_cmp rfl rfl rfl) rfl ?_)
    | (refine op_skip rfl rfl (by simp [undef]) rfl ?_)
  first | refine op_v (v_pickt rfl rfl) rfl ?_ | refine op_v (v_pickf rfl rfl) rfl ?_ | refine op_v (v_pickb rfl rfl rfl) rfl ?_
  refine ops_nil ?_
  refine post_next ?_
  refine code_cond_f rfl ?_
  refine code_skip ?_
  refine post_next ?_
  refine code_seq ?_
  refine code_region ?_
  refine op_v (v_move rfl) rfl ?_
  refine op_call pl28 rfl rfl ((HMin_does (by omega))) (List.Perm.refl _) ?_
  rintro v40 I40 _ hI40 ⟨rfl, rfl⟩
  have hl2 : ys35.length = 2 := hp35.length_eq
  have hmin : gt ys35 0 = (2, 9) := by
    have h1 := hp35.mem_iff.1 (gt_mem (xs := ys35) (by omega))
    have h2 := min_mem hh35 (hp35.mem_iff.2 (show ((2 : Int), (9 : Int)) ∈ _ by simp))
    simp at h1
    rcases h1 with h1 | h1
    · rw [h1] at h2; unfold leI at h2; simp at h2
    · exact h1
  rw [hmin, hl2]
  refine op_v (v_move rfl) rfl ?_
  refine op_v (v_extract rfl rfl) rfl ?_
  refine op_v (v_extract rfl rfl) rfl ?_
  refine o_alloc z57 rfl rfl (fun b4 => ?_)
  refine o_store ty57 rfl rfl rfl rfl rfl (by repeat (first | exact Swap.here | apply Swap.there)) rfl ?_
  refine op_v (v_assign rfl) rfl ?_
  refine ops_nil ?_
  refine post_next ?_
  refine code_seq ?_
  refine code_seq ?_
  refine code_region ?_
  refine op_v (v_assign rfl) rfl ?_
  refine ops_nil ?_
  refine post_next ?_
  refine code_block ?_
  refine code_loop (fun m σ' I' δ' => ∃ (k : Nat) (ys : List It) (δq : List Ent), m = 3 - k ∧ k ≤ 3 ∧ σ' = [(1, .pointer (some ⟨hb, 0, none⟩)), (2, .pointer (some ⟨q.qb, 0, none⟩)), (4, .pointer (some ⟨b4, 0, none⟩)), (5, .bool true), (6, .int .i64 k)] ∧ I40.le I' ∧ δ' = .box b4 57 [.int .i64 2, .int .i64 9] :: (HeapE hb mb A35 c35 ys35 mq35 ++ δq) ∧ QE q 1 1 0 ys δq ∧ ys.Perm (q9 k)) 3 [(1, .pointer (some ⟨hb, 0, none⟩)), (2, .pointer (some ⟨q.qb, 0, none⟩)), (4, .pointer (some ⟨b4, 0, none⟩)), (5, .bool true), (6, .int .i64 (0 : Nat))] ⟨0, [], δ13, rfl, by omega, rfl, Imm.le_refl _, rfl, hQ, List.Perm.refl _⟩ ⟨rfl, rfl, rfl, rfl, rfl, trivial⟩ ?_
  rintro m _ I1 _ ⟨k, ys, δq, rfl, hk, rfl, hI1, rfl, hq, hp⟩
  refine code_seq ?_
  refine code_seq ?_
  refine code_region ?_
  refine op_v (v_move rfl) rfl ?_
  first | refine op_v (v_cmptA rfl rfl rfl) rfl ?_ | refine op_v (v_cmpfA rfl rfl rfl) rfl ?_ | refine op_v (v_cmp rfl rfl rfl) rfl ?_
  refine ops_nil ?_
  refine post_next ?_
  refine code_cond rfl (fun hc1 => ?_) (fun hc1 => ?_)
  · have hlt : k < 3 := by have h := hc1; simp at h; omega
    refine code_skip ?_
    refine post_next ?_
    refine code_seq ?_
    refine code_block ?_
    refine code_seq ?_
    refine code_region ?_
    refine op_v (v_move rfl) rfl ?_
    refine op_v (v_move rfl) rfl ?_
    refine op_v (v_move rfl) rfl ?_
    first | refine op_v (v_subb rfl rfl rfl (by omega)) rfl ?_ | refine op_v (v_sub rfl rfl) rfl ?_
    refine op_call pl34 rfl rfl ((QPut_does hq)) (List.perm_append_comm (l₁ := [_, _, _, _])) ?_
    rintro v51 I51 δ51 hI51 ⟨e51, zs51, rfl, hr51, hq51⟩
    obtain ⟨rfl, hp51⟩ := hr51.ok hp (q9_new k) (by rw [q9_len]; omega)
    first | refine op_v (v_cmptA rfl rfl rfl) rfl ?_ | refine op_v (v_cmpfA rfl rfl rfl) rfl ?_ | refine op_v (v_cmp rfl rfl rfl) rfl ?_
    refine ops_nil ?_
    refine post_next ?_
    refine code_cond_f rfl ?_
    refine code_skip ?_
    refine post_out ?_
    refine post_next ?_
    refine code_region ?_
    refine op_v (v_move rfl) rfl ?_
    first | refine op_v (v_addb rfl rfl rfl (by omega)) rfl ?_ | refine op_v (v_add rfl rfl) rfl ?_
    refine op_v (v_assign rfl) rfl ?_
    refine ops_nil ?_
    refine PostJ.view (View.perm (List.perm_append_comm (l₂ := [_, _, _, _]))) ?_
    refine post_again (3 - (k + 1)) [(1, .pointer (some ⟨hb, 0, none⟩)), (2, .pointer (some ⟨q.qb, 0, none⟩)), (4, .pointer (some ⟨b4, 0, none⟩)), (5, .bool true), (6, .int .i64 (k + 1 : Nat))] (by omega) ⟨k + 1, zs51, δ51, rfl, hlt, rfl, Imm.leA, rfl, hq51, by rw [q9_succ]; exact hp51⟩ ⟨rfl, rfl, rfl, rfl, rfl, trivial⟩
  · have hge : k = 3 := by have h := hc1; simp at h; omega
    subst hge
    refine code_exit ?_
    refine post_exit_then ?_
    refine post_exit_then ?_
    refine post_exit ?_
    refine post_next ?_
    refine code_seq ?_
    refine code_region ?_
    refine op_v (v_move rfl) rfl ?_
    refine op_call pl35 rfl rfl ((QNext_does hq (by omega) (by omega) (by omega) (by omega))) (List.perm_append_comm (l₁ := [_, _, _, _])) ?_
    rintro v55 I55 δ55 hI55 HR55
    obtain ⟨zs55, rfl, hz55, hq55⟩ : ∃ zs, v55 = .tuple #[.int .i64 0, .bool true] ∧ zs.Perm [((8 : Int), (1 : Int)), (7, 2)] ∧ QE q 1 1 1 zs δ55 := by
      rcases HR55 with ⟨h, _⟩ | ⟨y, zs, h1, h2, h3, h4⟩
      · subst h; have := hp.length_eq; simp [q9_len] at this
      · have hy : y ∈ q9 3 := (hp.symm.trans h1).mem_iff.2 (List.mem_cons_self ..)
        have e3 : q9 3 = [((9 : Int), (0 : Int)), (8, 1), (7, 2)] := by decide
        have h5 : ∀ z ∈ ys, y.2 ≤ z.2 := h3
        have h6 := h5 (9, 0) (hp.mem_iff.2 (by rw [e3]; simp))
        rw [e3] at hy
        have hy0 : y = (9, 0) := by
          simp at hy
          rcases hy with rfl | rfl | rfl
          · rfl
          · simp at h6
          · simp at h6
        subst hy0
        exact ⟨zs, h2, (List.Perm.cons_inv (h1.symm.trans (e3 ▸ hp))), h4⟩
    refine op_v (v_move rfl) rfl ?_
    refine op_v (v_extract rfl rfl) rfl ?_
    refine op_v (v_extract rfl rfl) rfl ?_
    refine op_v (v_assign rfl) rfl ?_
    refine op_v (v_assign rfl) rfl ?_
    refine ops_nil ?_
    refine post_next ?_
    refine code_seq ?_
    refine code_region ?_
    refine op_v (v_move rfl) rfl ?_
    refine op_call pl35 rfl rfl ((QNext_does hq55 (by omega) (by omega) (by omega) (by omega))) (List.Perm.refl _) ?_
    rintro v60 I60 δ60 hI60 HR60
    obtain ⟨zs60, rfl, hz60, hq60⟩ : ∃ zs, v60 = .tuple #[.int .i64 2, .bool true] ∧ zs.length = 1 ∧ QE q 1 1 2 zs δ60 := by
      rcases HR60 with ⟨h, _⟩ | ⟨y, zs, h1, h2, h3, h4⟩
      · subst h; have := hz55.length_eq; simp at this
      · have hy := (hz55.symm.trans h1).mem_iff.2 (List.mem_cons_self ..)
        have h5 : ∀ z ∈ zs55, leI y z := h3
        have h6 := h5 (7, 2) (hz55.mem_iff.2 (by simp))
        have hy0 : y = (7, 2) := by
          simp at hy
          rcases hy with rfl | rfl
          · unfold leI at h6; simp at h6
          · rfl
        subst hy0
        have hl := (h1.symm.trans hz55).length_eq
        exact ⟨zs, h2, by simpa using hl, h4⟩
    refine OpsJ.view (View.perm (List.perm_append_comm (l₂ := [_, _, _, _]))) ?_
    refine op_v (v_move rfl) rfl ?_
    refine op_v (v_extract rfl rfl) rfl ?_
    refine op_v (v_extract rfl rfl) rfl ?_
    refine op_v (v_assign rfl) rfl ?_
    refine op_v (v_assign rfl) rfl ?_
    refine ops_nil ?_
    refine post_next ?_
    refine code_seq ?_
    refine code_region ?_
    first | refine op_v (v_fieldB 1 Try.underlying57 rfl rfl fz3 rfl) rfl ?_ | refine op_v (v_fieldI 1 Try.underlying57 rfl rfl fz3 rfl (by assumption)) rfl ?_ | refine op_v (v_field Try.underlying57 rfl fz3 rfl rfl) rfl ?_
    refine op_v (v_loadA ty3 rfl rfl) rfl ?_
    first | refine op_v (v_cmptA rfl rfl rfl) rfl ?_ | refine op_v (v_cmpfA rfl rfl rfl) rfl ?_ | refine op_v (v_cmp rfl rfl rfl) rfl ?_
    refine op_v (v_move rfl) rfl ?_
    first
      | (refine op_want rfl rfl ?_
         refine op_v (v_move rfl) rfl ?_)
      | (refine op_skip rfl rfl (by simp [undef]) rfl ?_)
    first | refine op_v (v_pickt rfl rfl) rfl ?_ | refine op_v (v_pickf rfl rfl) rfl ?_ | refine op_v (v_pickb rfl rfl rfl) rfl ?_
    refine op_v (v_move rfl) rfl ?_
    first
      | (refine op_want rfl rfl ?_
         refine op_v (v_move rfl) rfl ?_)
      | (refine op_skip rfl rfl (by simp [undef]) rfl ?_)
    first
      | (refine op_want rfl rfl ?_
         refine op_call pl30 rfl rfl ((HSize_does)) (List.perm_middle (l₁ := [_, _, _]) (l₂ := δ60)).symm ?_
         rintro v71 I71 _ hI71 ⟨rfl, rfl⟩
         rw [hl2]
         refine OpsJ.view (View.perm (List.perm_middle (l₁ := [_, _, _]) (l₂ := δ60))) ?_)
      | (refine op_skip rfl rfl (by simp [undef]) rfl ?_)
    first
      | (refine op_want rfl rfl ?_
         first | refine op_v (v_cmptA rfl rfl rfl) rfl ?_ | refine op_v (v_cmpfA rfl rfl rfl) rfl ?_ | refine op_v (v_cmp rfl rfl rfl) rfl ?_)
      | (refine op_skip rfl rfl (by simp [undef]) rfl ?_)
    first | refine op_v (v_pickt rfl rfl) rfl ?_ | refine op_v (v_pickf rfl rfl) rfl ?_ | refine op_v (v_pickb rfl rfl rfl) rfl ?_
    refine op_v (v_move rfl) rfl ?_
    first
      | (refine op_want rfl rfl ?_
         refine op_v (v_move rfl) rfl ?_)
      | (refine op_skip rfl rfl (by simp [undef]) rfl ?_)
    first
      | (refine op_want rfl rfl ?_
         first | refine op_v (v_cmptA rfl rfl rfl) rfl ?_ | refine op_v (v_cmpfA rfl rfl rfl) rfl ?_ | refine op_v (v_cmp rfl rfl rfl) rfl ?_)
      | (refine op_skip rfl rfl (by simp [undef]) rfl ?_)
    first | refine op_v (v_pickt rfl rfl) rfl ?_ | refine op_v (v_pickf rfl rfl) rfl ?_ | refine op_v (v_pickb rfl rfl rfl) rfl ?_
    refine op_v (v_move rfl) rfl ?_
    first
      | (refine op_want rfl rfl ?_
         refine op_v (v_move rfl) rfl ?_)
      | (refine op_skip rfl rfl (by simp [undef]) rfl ?_)
    first | refine op_v (v_pickt rfl rfl) rfl ?_ | refine op_v (v_pickf rfl rfl) rfl ?_ | refine op_v (v_pickb rfl rfl rfl) rfl ?_
    refine op_v (v_move rfl) rfl ?_
    first
      | (refine op_want rfl rfl ?_
         refine op_v (v_move rfl) rfl ?_)
      | (refine op_skip rfl rfl (by simp [undef]) rfl ?_)
    first
      | (refine op_want rfl rfl ?_
         first | refine op_v (v_cmptA rfl rfl rfl) rfl ?_ | refine op_v (v_cmpfA rfl rfl rfl) rfl ?_ | refine op_v (v_cmp rfl rfl rfl) rfl ?_)
      | (refine op_skip rfl rfl (by simp [undef]) rfl ?_)
    first | refine op_v (v_pickt rfl rfl) rfl ?_ | refine op_v (v_pickf rfl rfl) rfl ?_ | refine op_v (v_pickb rfl rfl rfl) rfl ?_
    refine op_v (v_move rfl) rfl ?_
    first
      | (refine op_want rfl rfl ?_
         refine op_v (v_move rfl) rfl ?_)
      | (refine op_skip rfl rfl (by simp [undef]) rfl ?_)
    first | refine op_v (v_pickt rfl rfl) rfl ?_ | refine op_v (v_pickf rfl rfl) rfl ?_ | refine op_v (v_pickb rfl rfl rfl) rfl ?_
    refine op_v (v_move rfl) rfl ?_
    first
      | (refine op_want rfl rfl ?_
         refine op_v (v_move rfl) rfl ?_)
      | (refine op_skip rfl rfl (by simp [undef]) rfl ?_)
    first
      | (refine op_want rfl rfl ?_
         refine op_call pl38 rfl rfl ((QSize_does hq60)) (List.perm_append_comm (l₁ := [_, _, _, _])) ?_
         rintro v90 I90 δ90 hI90 ⟨rfl, hq90⟩
         rw [hz60])
      | (refine op_skip rfl rfl (by simp [undef]) rfl ?_)
    first
      | (refine op_want rfl rfl ?_
         first | refine op_v (v_cmptA rfl rfl rfl) rfl ?_ | refine op_v (v_cmpfA rfl rfl rfl) rfl ?_ | refine op_v (v_cmp rfl rfl rfl) rfl ?_)
      | (refine op_skip rfl rfl (by simp [undef]) rfl ?_)
    first | refine op_v (v_pickt rfl rfl) rfl ?_ | refine op_v (v_pickf rfl rfl) rfl ?_ | refine op_v (v_pickb rfl rfl rfl) rfl ?_
    refine op_v (v_assign rfl) rfl ?_
    refine ops_nil ?_
    refine post_next ?_
    refine code_ret ?_
    refine post_ret (rs := [.tmp 0]) rfl (List.Perm.refl _) (.cons (.tmp rfl) .nil) (List.nil_sublist _) ?_
    exact ⟨rfl, rfl⟩
end Go.Proofs.Ythbcdffldcdfoaa
/- Walks: another part put at a place, by the program. -/
set_option linter.unusedVariables false
set_option linter.unusedSimpArgs false
/- short -/
namespace Go.Proofs.Ythbcdffldcdfoaa
open Go Lg

end Go.Proofs.Ythbcdffldcdfoaa
/- Walks: the document's example on places. -/
set_option linter.unusedVariables false
set_option linter.unusedSimpArgs false
/- short -/
namespace Go.Proofs.Ythbcdffldcdfoaa
open Go Lg

theorem RowT.repS {I : Imm} {ad : Option Addr} {n c : Nat} {xs : List Value} {ts : List T} (hn : n = ts.length) (hc : Cells I ad xs) (hr : RowT I xs ts) (hle : n ≤ c) (hb : n ≤ 4398046511104) : RepS I (.slice ad n c) ts := by
  subst hn
  exact RepT.args (RowT.rep (h := 0) hc hr (by unfold InR; omega) hle hb)
theorem RInts.lit {I : Imm} {ad : Option Addr} {n c : Nat} {xs : List Int} (hat : Cells I ad (xs.map (Value.int .i64))) (hc : n ≤ c) (hr : xs.all (fun x => decide (0 ≤ x ∧ x ≤ 1000)) = true) (hn : n = xs.length := by rfl) (hb : n ≤ 17592186044416 := by decide) : RInts I (.slice ad n c) xs :=
  RInts.of hn hc hb hat (fun x hx => by have := List.all_eq_true.1 hr x hx; simp at this; unfold InR; omega)

def tA : T := .mk 4 [.mk 1 [], .mk 3 [.mk 2 []]]
end Go.Proofs.Ythbcdffldcdfoaa
/- Walk: the statement on places under others. -/
set_option linter.unusedVariables false
set_option linter.unusedSimpArgs false
/- short -/
namespace Go.Proofs.Ythbcdffldcdfoaa
open Go Lg

theorem Ints_is {I : Imm} {va vb : Value} {xs ys : List Int} {a : Bool} (ha : RInts I va xs) (hb : RInts I vb ys) (h : decide (xs = ys) = a) :
    Does Try.prog 51 [va, vb] I [] (fun v I' δ' => v = .bool a ∧ δ' = []) := by subst h; exact Ints_does I ha hb

theorem under_trans {p q o : List Int} (h : underL p q = true) (k : underL q o = true) : underL p o = true := by
  simp only [underL, decide_eq_true_eq] at *
  refine ⟨by omega, ?_⟩
  obtain ⟨h1, h2⟩ := h
  obtain ⟨k1, k2⟩ := k
  rw [k2, List.take_take, Nat.min_eq_left h1] at h2
  exact h2
theorem under_both {p q : List Int} (h : underL p q = true) (k : underL q p = true) : p = q := by
  simp only [underL, decide_eq_true_eq] at *
  have hl : p.length = q.length := by omega
  have := h.2
  rw [hl, List.take_length] at this
  exact this

end Go.Proofs.Ythbcdffldcdfoaa
/- What a row's reading of its arguments says of the heap; plain facts, no condition. -/
set_option linter.unusedVariables false
set_option linter.unusedSimpArgs false
namespace Go.Proofs.Ythbcdffldcdfoaa
open Go Lg Go.ChangeShapes Go.WideShapes Go.ChangeAt Go.RowKit

/-- the whole heap, as what is only read -/
def hImm (w : World) : Imm := fun b => w.heap[b]?
theorem hSat (w : World) : Sat w (hImm w) [] := ⟨fun _ _ h => h, fun x hx => by simp at hx, by simp [blks], fun b hb => by simp [blks] at hb⟩
theorem hCell (w : World) (a : Addr) : (hImm w).cell a = w.cell? a := rfl
theorem wf_in {n : Int} (h : (Lit.int .i64 n).wf = true) : InR n := by
  simp only [Lit.wf, Bool.and_eq_true, decide_eq_true_eq] at h
  have h1 : IntKind.i64.min = -9223372036854775808 := by decide
  have h2 : IntKind.i64.max = 9223372036854775807 := by decide
  unfold InR; omega

variable {H : Type} {enc : TypeId × Value → H} {P : Program} {W : World} {spare : Nat → Bool} {held : Bool}

theorem weights_at {ts : List TypeId} {ds : List (DataW H)} (h : (DataW.weightsEach P ts ds).all (· ≤ reachBytes) = true) : ∀ (j : Nat) (t : TypeId) (d : DataW H), ts[j]? = some t → ds[j]? = some d → (d.weights P t).all (· ≤ reachBytes) = true := by
  induction ts generalizing ds with
  | nil => intro j t d ht; simp at ht
  | cons t0 ts ih =>
    cases ds with
    | nil => intro j t d _ hd; simp at hd
    | cons d0 ds =>
      simp only [DataW.weightsEach, List.all_append, Bool.and_eq_true] at h
      intro j t d ht hd
      cases j with
      | zero => simp at ht hd; subst ht; subst hd; exact h.1
      | succ j => exact ih h.2 j t d (by simpa using ht) (by simpa using hd)
theorem weights_all {e : TypeId} {ds : List (DataW H)} (h : (DataW.weightsAll P e ds).all (· ≤ reachBytes) = true) : ∀ d ∈ ds, (d.weights P e).all (· ≤ reachBytes) = true := by
  induction ds with
  | nil => intro d hd; cases hd
  | cons d0 ds ih =>
    simp only [DataW.weightsAll, List.all_append, Bool.and_eq_true] at h
    intro d hd
    rcases List.mem_cons.1 hd with rfl | hd
    · exact h.1
    · exact ih h.2 d hd

theorem openI {t e : TypeId} {a : Option Addr} {len cap : Nat} {d : DataW H} {ps : List MemPlace} (ht : P.underlying t = some (.slice e)) (he : P.underlying e = some (.int .i64)) (hc : P.cellsOf e = 1) (hB : P.bytesOf e = 8)
    (h : DataW.Trod enc P W 0 spare held t (.slice a len cap) d ps) (hw : (d.weights P t).all (· ≤ reachBytes) = true) : ∃ xs, RInts (hImm W) (.slice a len cap) xs := by
  obtain ⟨fuel, hf⟩ := h
  rcases open_ints ht he hc hf with ⟨hcs, _⟩ | ⟨x, l, c, zs, hcs, _, hl, hm, hz, hx, hcell, hwz⟩
  · simp [Value.cells] at hcs
    obtain ⟨rfl, rfl, rfl⟩ := hcs
    exact ⟨[], RInts.nil _⟩
  · simp [Value.cells] at hcs
    obtain ⟨rfl, rfl, rfl⟩ := hcs
    obtain ⟨hx, _⟩ := Prod.mk.inj hx
    subst hx
    have hzl : len ≤ zs.length := by rw [hz]; split <;> omega
    have hlen : (zs.take len).length = len := by rw [List.length_take]; omega
    simp only [DataW.weights, ht, hB, List.all_cons, Bool.and_eq_true, decide_eq_true_eq] at hw
    have hb : len * 8 ≤ reachBytes := by
      refine Nat.le_trans ?_ hw.1
      simp [lits]; omega
    have hrb : reachBytes = 140737488351232 := rfl
    refine ⟨zs.take len, RInts.of hlen.symm hl (by omega) (fun j v hj => ?_) (fun y hy => wf_in (hwz y (List.mem_of_mem_take hy)))⟩
    have hjl : j < len := by have := (List.getElem?_eq_some_iff.1 hj).1; simp at this; omega
    have hc := hcell j (by omega)
    rw [List.map_take, List.getElem?_take_of_lt hjl] at hj
    have e : v = .int .i64 (zs.getD j 0) := by
      have hjz : j < zs.length := by omega
      simp [hjz] at hj
      simp [hjz, hj]
    subst e
    exact hc

theorem pick_list {α : Type} {n : Nat} {p : Nat → α → Prop} (h : ∀ i, i < n → ∃ a, p i a) : ∃ l : List α, l.length = n ∧ ∀ i (hi : i < l.length), p i l[i] := by
  induction n with
  | zero => exact ⟨[], rfl, fun i hi => by simp at hi⟩
  | succ n ih =>
    obtain ⟨l, h1, h2⟩ := ih fun i hi => h i (by omega)
    obtain ⟨a, ha⟩ := h n (by omega)
    refine ⟨l ++ [a], by simp [h1], fun i hi => ?_⟩
    by_cases hlt : i < l.length
    · rw [List.getElem_append_left hlt]; exact h2 i hlt
    · have e : i = l.length := by simp at hi; omega
      subst e
      simp [h1, ha]

theorem cells_two {a : Addr} {cs : List Value} (h : W.cells? 0 a 2 = some cs) : ∃ u v, cs = [u, v] ∧ W.cell? a = some u ∧ W.cell? (a.add 1) = some v := by
  simp only [World.cells?, Nat.zero_le, if_true] at h
  have hr : List.range 2 = [0, 1] := rfl
  rw [hr] at h
  simp only [List.mapM_cons, List.mapM_nil, Option.bind_eq_bind, Option.bind_eq_some_iff, Option.pure_def, Option.some.injEq] at h
  obtain ⟨u, hu, r, ⟨v, hv, r2, rfl, rfl⟩, rfl⟩ := h
  have ha : a.add 0 = a := by simp [Addr.add]
  rw [ha] at hu
  exact ⟨u, v, rfl, hu, hv⟩

/-- a struct of a number and a row of its own kind -/
structure TreeTy (P : Program) (tT tS tI : TypeId) : Prop where
  str : ∃ fs : Array Field, P.underlying tT = some (.struct fs) ∧ fs.size = 2 ∧ (∃ f0 f1 : Field, fs[0]? = some f0 ∧ fs[1]? = some f1 ∧ f0.type = tI ∧ f0.offset = 0 ∧ f1.type = tS ∧ f1.offset = 1 ∧ fs.toList.map (·.type) = [tI, tS])
  sl : P.underlying tS = some (.slice tT)
  int : P.underlying tI = some (.int .i64)
  cT : P.cellsOf tT = 2
  cS : P.cellsOf tS = 1
  cI : P.cellsOf tI = 1
  bT : P.bytesOf tT = 32

theorem openT {tT tS tI : TypeId} (ty : TreeTy P tT tS tI) : ∀ (fuel : Nat) (cs : List Value) (d : DataW H) (ps : List MemPlace), DataW.trod enc P W 0 spare held fuel tT cs = some (d, ps) → (d.weights P tT).all (· ≤ reachBytes) = true →
    ∃ (s : Value) (t : T), cs = [.int .i64 t.head, s] ∧ RepT (hImm W) (.agg #[.int .i64 t.head, s]) t := by
  intro fuel
  induction fuel using Nat.strongRecOn with
  | _ fuel ih =>
    intro cs d ps h hw
    obtain ⟨fs, hfs, hsz, f0, f1, hf0, hf1, ht0, ho0, ht1, ho1, hts⟩ := ty.str
    obtain ⟨xs, n, rfl, hx, hcl, hxl, hxs⟩ := DataW.trod_struct hfs h
    rw [ty.cT] at hcl
    obtain ⟨u, v, rfl⟩ : ∃ u v, cs = [u, v] := by
      rcases cs with _ | ⟨u, _ | ⟨v, _ | ⟨_, _⟩⟩⟩
      · simp at hcl
      · simp at hcl
      · exact ⟨u, v, rfl⟩
      · simp at hcl
    have h0 := hxs 0 f0 hf0
    have h1 := hxs 1 f1 hf1
    rw [ht0, ho0, ty.cI] at h0
    rw [ht1, ho1, ty.cS] at h1
    simp only [List.drop_zero, List.drop_succ_cons, List.take_succ_cons, List.take_zero] at h0 h1
    rw [hsz] at hxl
    obtain ⟨x0, x1, rfl⟩ : ∃ x0 x1, xs = [x0, x1] := by
      rcases xs with _ | ⟨u, _ | ⟨v, _ | ⟨_, _⟩⟩⟩
      · simp at hxl
      · simp at hxl
      · exact ⟨u, v, rfl⟩
      · simp at hxl
    simp only [List.getElem?_cons_zero, List.getElem?_cons_succ] at h0 h1
    obtain ⟨m, hm, _, hwf⟩ := DataW.trod_int ty.int h0
    simp only [List.cons.injEq, and_true] at hm
    subst hm
    simp only [Prod.mk.injEq] at hx
    obtain ⟨rfl, _⟩ := hx
    simp only [DataW.weights, hfs, hts, List.map_cons, List.map_nil, DataW.weightsEach, List.all_append, Bool.and_eq_true] at hw
    have hw1 := hw.2.1
    rcases DataW.trod_slice ty.sl h1 with ⟨hcs, _⟩ | ⟨a, len, cap, elems, rest, n', rfl, hcs, rfl, _, hl, hm, hlen, hel, hsp, _⟩
    · simp only [List.cons.injEq, and_true] at hcs
      subst hcs
      exact ⟨_, .mk m [], rfl, RepT.mk _ (.mk m []) (wf_in hwf) (RepS.nil _)⟩
    · simp only [List.cons.injEq, and_true] at hcs
      subst hcs
      simp only [DataW.weights, ty.sl, ty.bT, List.all_cons, List.all_append, Bool.and_eq_true, decide_eq_true_eq] at hw1
      obtain ⟨hwl, hwe, _⟩ := hw1
      have hwe' := weights_all hwe
      have hrb : reachBytes = 140737488351232 := rfl
      simp only [List.length_map, hlen] at hwl
      have hall : ∀ i, i < len → ∃ t : T, ∃ s : Option Addr × Nat, At (hImm W) (some a) (i * 2) [.int .i64 t.head, .slice s.1 t.args.length s.2] ∧ RepT (hImm W) (.agg #[.int .i64 t.head, .slice s.1 t.args.length s.2]) t := by
        intro i hi
        have hy := hel i hi
        rw [ty.cT] at hy
        have hie : elems[i]? = some elems[i] := List.getElem?_eq_getElem (by omega)
        rw [hie, Option.bind_eq_some_iff] at hy
        obtain ⟨cs, hcs, htr⟩ := hy
        obtain ⟨u, v, rfl, hu, hv⟩ := cells_two hcs
        obtain ⟨s, t, he, hr⟩ := ih n' (by omega) _ elems[i].1 elems[i].2 htr (hwe' _ (List.mem_map.2 ⟨_, List.getElem_mem (by omega), rfl⟩))
        obtain ⟨sa, sc, hsh, _⟩ := hr.shape
        have hs : s = .slice sa t.args.length sc := by simpa using hsh
        subst hs
        simp only [List.cons.injEq, and_true] at he
        obtain ⟨rfl, rfl⟩ := he
        refine ⟨t, (sa, sc), fun j x hj => ?_, hr⟩
        rcases j with _ | _ | j
        · simp at hj; subst hj; exact hu
        · simp at hj; subst hj
          show W.cell? (a.add (i * 2 + 1)) = _
          rw [← add_add]; exact hv
        · simp at hj
      obtain ⟨ts, htl, hts2⟩ := pick_list hall
      have hss : ∃ ss : Nat → Option Addr × Nat, ∀ i (hi : i < ts.length), At (hImm W) (some a) (i * 2) [.int .i64 ts[i].head, .slice (ss i).1 ts[i].args.length (ss i).2] ∧ RepT (hImm W) (.agg #[.int .i64 ts[i].head, .slice (ss i).1 ts[i].args.length (ss i).2]) ts[i] := by
        classical
        exact ⟨fun i => if hi : i < ts.length then (hts2 i hi).choose else (none, 0), fun i hi => by simp only [dif_pos hi]; exact (hts2 i hi).choose_spec⟩
      obtain ⟨ss, hss⟩ := hss
      subst htl
      exact ⟨_, .mk m ts, rfl, RepT.intro ss (wf_in hwf) hl (by omega) (fun i hi => (hss i hi).1) (fun i hi => (hss i hi).2)⟩

theorem openTv {tT tS tI : TypeId} (ty : TreeTy P tT tS tI) {v : Value} {d : DataW H} {ps : List MemPlace} (h : DataW.Trod enc P W 0 spare held tT v d ps) (hw : (d.weights P tT).all (· ≤ reachBytes) = true) (hv : ∃ cs, v = .agg cs ∧ cs.size = P.cellsOf tT) : ∃ t, RepT (hImm W) v t := by
  obtain ⟨fuel, hf⟩ := h
  obtain ⟨s, t, hc, hr⟩ := openT ty fuel _ d ps hf hw
  obtain ⟨cs, rfl, _⟩ := hv
  have e : cs = #[.int .i64 t.head, s] := by
    apply Array.ext'
    simpa [Value.cells] using hc
  subst e
  exact ⟨t, hr⟩
theorem tr_below {w w' : World} {I I' : Imm} {δ' : List Ent} (h : Tr w I [] w' I' δ') : Below w.heap.size w w' := ⟨h.os, h.tape, h.output, h.size, fun k hk => h.same k hk (by simp [blks])⟩
end Go.Proofs.Ythbcdffldcdfoaa
/- What a row's reading of items, and of steps, says of the heap; plain facts, no condition. -/
set_option linter.unusedVariables false
set_option linter.unusedSimpArgs false
namespace Go.Proofs.Ythbcdffldcdfoaa
open Go Lg Go.ChangeShapes Go.WideShapes Go.ChangeAt Go.RowKit
variable {H : Type} {enc : TypeId × Value → H} {P : Program} {W : World} {spare : Nat → Bool} {held : Bool}
theorem cells_all2 {a : Addr} {n : Nat} {cs : List Value} (h : W.cells? 0 a n = some cs) : cs.length = n ∧ ∀ j v, cs[j]? = some v → W.cell? (a.add j) = some v := by
  simp only [World.cells?, Nat.zero_le, if_true] at h
  have key : ∀ (l : List Nat) (cs : List Value), l.mapM (fun i => W.cell? (a.add i)) = some cs → cs.length = l.length ∧ ∀ (j : Nat) (v : Value), cs[j]? = some v → ∃ i : Nat, l[j]? = some i ∧ W.cell? (a.add i) = some v := by
    intro l
    induction l with
    | nil => intro cs h; simp at h; subst h; exact ⟨rfl, fun j v h => by simp at h⟩
    | cons i l ih =>
      intro cs h
      simp only [List.mapM_cons, Option.bind_eq_bind, Option.bind_eq_some_iff, Option.pure_def, Option.some.injEq] at h
      obtain ⟨u, hu, r, hr, rfl⟩ := h
      obtain ⟨h1, h2⟩ := ih r hr
      refine ⟨by simp [h1], fun j v hj => ?_⟩
      cases j with
      | zero => simp at hj; subst hj; exact ⟨i, rfl, hu⟩
      | succ j => simpa using h2 j v (by simpa using hj)
  obtain ⟨h1, h2⟩ := key _ _ h
  refine ⟨by simpa using h1, fun j v hj => ?_⟩
  obtain ⟨i, hi, hc⟩ := h2 j v hj
  have hlt : j < n := by have := (List.getElem?_eq_some_iff.1 hi).1; simpa using this
  rw [List.getElem?_range hlt] at hi
  cases hi
  exact hc
/-- a struct of so many numbers -/
structure NLay (P : Program) (tN tI : TypeId) (n : Nat) : Prop where
  str : ∃ fs : Array Field, P.underlying tN = some (.struct fs) ∧ fs.size = n ∧ ∀ (i : Nat) (f : Field), fs[i]? = some f → f.type = tI ∧ f.offset = i
  int : P.underlying tI = some (.int .i64)
  cN : P.cellsOf tN = n
  cI : P.cellsOf tI = 1
theorem openN {tN tI : TypeId} {n : Nat} (ly : NLay P tN tI n) {fuel : Nat} {cs : List Value} {x : DataW H × List MemPlace} (h : DataW.trod enc P W 0 spare held fuel tN cs = some x) :
    ∃ ns : List Int, ns.length = n ∧ cs = ns.map (Value.int .i64) := by
  obtain ⟨fs, hs, hsz, hf⟩ := ly.str
  obtain ⟨xs, m, rfl, hx, hcl, hxl, hxs⟩ := DataW.trod_struct hs h
  rw [ly.cN] at hcl
  have key : ∀ i, i < n → ∃ k : Int, cs[i]? = some (.int .i64 k) := by
    intro i hi
    have hfi : fs[i]? = some (fs[i]'(by omega)) := Array.getElem?_eq_getElem (by omega)
    obtain ⟨h1, h2⟩ := hf i _ hfi
    have q := hxs i _ hfi
    rw [h1, h2, ly.cI] at q
    have hxi : i < xs.length := by rw [hxl]; omega
    rw [List.getElem?_eq_getElem hxi] at q
    obtain ⟨k, hk, _⟩ := DataW.trod_int ly.int q
    refine ⟨k, ?_⟩
    have := congrArg (fun l => l[0]?) hk
    simp only [List.getElem?_take, List.getElem?_drop] at this
    simpa using this
  obtain ⟨ns, hl, hns⟩ := pick_list key
  refine ⟨ns, hl, ?_⟩
  apply List.ext_getElem?
  intro i
  by_cases hi : i < n
  · rw [hns i (by omega), List.getElem?_map, List.getElem?_eq_getElem (by omega)]; rfl
  · rw [List.getElem?_eq_none (by omega), List.getElem?_eq_none (by simp; omega)]
theorem openItv {tN tI : TypeId} (ly : NLay P tN tI 2) {v : Value} {d : DataW H} {ps : List MemPlace} (h : DataW.Trod enc P W 0 spare held tN v d ps) (hv : ∃ cs, v = .agg cs) : ∃ x : Int × Int, v = .agg #[.int .i64 x.1, .int .i64 x.2] := by
  obtain ⟨cs, rfl⟩ := hv
  obtain ⟨fuel, h1⟩ := h
  obtain ⟨ns, hl, hc⟩ := openN ly h1
  obtain ⟨a, b, rfl⟩ : ∃ a b, ns = [a, b] := by
    rcases ns with _ | ⟨a, _ | ⟨b, _ | ⟨_, _⟩⟩⟩ <;> simp at hl
    exact ⟨a, b, rfl⟩
  refine ⟨(a, b), ?_⟩
  have : cs.toList = [.int .i64 a, .int .i64 b] := by simpa [Value.cells] using hc
  cases cs; simp at this; subst this; rfl
/-- a row of structs of so many numbers each, that is only read -/
def RepN (I : Imm) (v : Value) (n : Nat) (rs : List (List Int)) : Prop := ∃ (A : Option Addr) (c : Nat), v = .slice A rs.length c ∧ rs.length ≤ c ∧ rs.length ≤ 17592186044416 ∧ ∀ i (h : i < rs.length), rs[i].length = n ∧ At I A (i * n) (rs[i].map (Value.int .i64))
theorem openNs {tS tN tI : TypeId} {n b : Nat} (ly : NLay P tN tI n) (sl : P.underlying tS = some (.slice tN)) (hB : P.bytesOf tN = b) (hb : 8 ≤ b) {v : Value} {d : DataW H} {ps : List MemPlace} (h : DataW.Trod enc P W 0 spare held tS v d ps) (hw : (d.weights P tS).all (· ≤ reachBytes) = true) (hv : ∃ a l c, v = .slice a l c) :
    ∃ rs, RepN (hImm W) v n rs := by
  obtain ⟨a0, len0, cap0, rfl⟩ := hv
  obtain ⟨fuel, h1⟩ := h
  rcases DataW.trod_slice sl h1 with ⟨hcs, _⟩ | ⟨a, len, cap, elems, rest, n', rfl, hcs, hd, _, hl, hm, hlen, hel, hsp, _⟩
  · simp [Value.cells] at hcs
    obtain ⟨rfl, rfl, rfl⟩ := hcs
    exact ⟨[], none, 0, rfl, Nat.le_refl _, by simp, fun i hi => by simp at hi⟩
  · simp [Value.cells] at hcs
    obtain ⟨rfl, rfl, rfl⟩ := hcs
    obtain ⟨rfl, _⟩ := Prod.mk.inj hd
    simp only [DataW.weights, sl, hB, List.all_cons, List.all_append, Bool.and_eq_true, decide_eq_true_eq] at hw
    obtain ⟨hwl, _⟩ := hw
    have hrb : reachBytes = 140737488351232 := rfl
    simp only [List.length_map, hlen] at hwl
    have hle : len0 ≤ 17592186044416 := by
      have h1 : len0 * 8 ≤ (len0 + rest.length) * b := Nat.mul_le_mul (Nat.le_add_right _ _) hb
      omega
    have hall : ∀ i, i < len0 → ∃ ns : List Int, ns.length = n ∧ At (hImm W) (some a) (i * n) (ns.map (Value.int .i64)) := by
      intro i hi
      have hy := hel i hi
      rw [ly.cN] at hy
      have hie : elems[i]? = some elems[i] := List.getElem?_eq_getElem (by omega)
      rw [hie, Option.bind_eq_some_iff] at hy
      obtain ⟨cs, hcs, htr⟩ := hy
      obtain ⟨_, hca⟩ := cells_all2 hcs
      obtain ⟨ns, hns, rfl⟩ := openN ly htr
      refine ⟨ns, hns, fun j v hj => ?_⟩
      have := hca j v hj
      rw [add_add] at this
      exact this
    obtain ⟨bl, hbl, hb2⟩ := pick_list hall
    subst hbl
    exact ⟨bl, some a, cap0, rfl, by simpa using hl, hle, fun i hi => hb2 i hi⟩
end Go.Proofs.Ythbcdffldcdfoaa
/- Items: equality; rows of items that are only read; whether a number is in a row. No condition. -/
set_option linter.unusedVariables false
set_option linter.unusedSimpArgs false
set_option linter.unnecessarySimpa false
/- short -/
namespace Go.Proofs.Ythbcdffldcdfoaa
open Go Lg

def itEq (a b : It) : Bool := a.1 == b.1 && a.2 == b.2
theorem itEq_iff {a b : It} : itEq a b = true ↔ a = b := by
  unfold itEq
  constructor
  · intro h
    simp at h
    exact Prod.ext h.1 h.2
  · rintro rfl; simp
abbrev itV (a : It) : Value := .agg #[.int .i64 a.1, .int .i64 a.2]
structure ItTy (P : Program) (t ti : TypeId) : Prop where
  str : ∃ f0 f1 : Field, P.underlying t = some (.struct #[f0, f1]) ∧ (f0.type = ti ∧ f0.offset = 0 ∧ f0.name ≠ "_") ∧ (f1.type = ti ∧ f1.offset = 1 ∧ f1.name ≠ "_")
  ui : P.underlying ti = some (.int .i64)
  held : P.stoodInHeld t = false
  guard : P.eqGuardType P.depth t = false
theorem run_partI {P : Program} {t : TypeId} {u : TypeDesc} (hu : P.underlying t = some u) (hn : (match u with | .struct _ | .array _ _ => true | _ => false) = false) {cs : Array Value} {i : Nat} {v : Value} (hv : cs[i]? = some v) (w : World) : (part t cs i).run P w = .ok v w := by
  have h1 : (underlying t).run P w = .ok u w := by simp [underlying, program, Sem.run, hu]
  have hia : (isAgg t).run P w = .ok false w := by
    simp only [isAgg, Sem.run_bind, h1, Result.andThen]
    cases u <;> simp at hn <;> rfl
  simp [part, hia, hv]
theorem run_eqIt {P : Program} {t ti : TypeId} (ty : ItTy P t ti) (a b : It) (w : World) : (Op.equal t (itV a) (itV b)).run P w = .ok (itEq a b) w := by
  obtain ⟨f0, f1, hs, ⟨e1, e2, e3⟩, ⟨g1, g2, g3⟩⟩ := ty.str
  have hu : (underlying t).run P w = .ok (.struct #[f0, f1]) w := by simp [underlying, program, Sem.run, hs]
  have hui : (underlying ti).run P w = .ok (.int .i64) w := by simp [underlying, program, Sem.run, ty.ui]
  have q2 : ∀ x y : Int, (Op.equalIn 9999 ti (.int .i64 x) (.int .i64 y)).run P w = .ok (x == y) w := fun x y => by
    show (Op.equalIn (9998 + 1) ti (.int .i64 x) (.int .i64 y)).run P w = _
    rw [Op.equalIn]; simp only [Sem.run_bind, hui, Result.andThen]; rfl
  have p1 : ∀ s : It, (part ti #[.int .i64 s.1, .int .i64 s.2] 0).run P w = .ok (.int .i64 s.1) w := fun s => run_partI ty.ui rfl rfl w
  have p2 : ∀ s : It, (part ti #[.int .i64 s.1, .int .i64 s.2] 1).run P w = .ok (.int .i64 s.2) w := fun s => run_partI ty.ui rfl rfl w
  have hheld := ty.held
  show (Op.equalIn (9999 + 1) t (.agg #[.int .i64 a.1, .int .i64 a.2]) (.agg #[.int .i64 b.1, .int .i64 b.2])).run P w = _
  rw [Op.equalIn]
  simp only [Sem.run_bind, hu, Result.andThen, program, Sem.run, hheld, Bool.false_eq_true, if_false]
  unfold itEq
  cases c1 : (a.1 == b.1) <;> cases c2 : (a.2 == b.2) <;>
    simp [Sem.run_bind, Result.andThen, e1, e2, e3, g1, g2, g3, p1, p2, q2, c1, c2, List.forIn_cons, List.forIn_nil]
section
variable {C : Ctx} {σ : Env} {ds : List Nat} {I : Imm} {δ : List Ent}
def cmpIt : BinOp → It → It → Option Bool
  | .eql, a, b => some (itEq a b)
  | .neq, a, b => some (!(itEq a b))
  | _, _, _ => none
theorem Lg.v_eqIt {op : BinOp} {t t' ti : TypeId} {x y : Operand} {a b : It} {z : Bool} (ty : ItTy C.P t ti) (hx : evS σ x = some (itV a)) (hy : evS σ y = some (itV b)) (hz : cmpIt op a b = some z) : ValJ C σ ds I δ (.binOp op t x y t') (.bool z) := by
  have hg : ∀ w, (eqGuard op t x y (itV a) (itV b)).run C.P w = .ok () w := fun w => by
    have hq := ty.guard
    cases op <;> simp [cmpIt] at hz <;> simp [eqGuard, program, Sem.run, hq]
  have he : ∀ w, (Op.equal t (itV a) (itV b)).run C.P w = .ok (itEq a b) w := run_eqIt ty a b
  refine v_bin hx hy hg (fun w => ?_)
  have h2 : ∀ f : Bool → Bool, (do pure (Value.bool (f (← Op.equal t (itV a) (itV b)))) : Sem Value).run C.P w = .ok (.bool (f (itEq a b))) w := fun f => by simp only [Sem.run_bind, he, Result.andThen]; rfl
  cases op <;> simp only [cmpIt, Option.some.injEq, reduceCtorEq] at hz
  · subst hz; exact h2 id
  · subst hz; exact h2 not
end
theorem itTy : ItTy Try.prog 57 3 :=
  ⟨⟨_, _, Try.underlying57, ⟨rfl, rfl, by decide⟩, ⟨rfl, rfl, by decide⟩⟩, Try.underlying3, by kernel_rfl, by kernel_rfl⟩
def RepIt (I : Imm) (v : Value) (xs : List It) : Prop := ∃ (A : Option Addr) (c : Nat), v = .slice A xs.length c ∧ xs.length ≤ c ∧ xs.length ≤ 17592186044416 ∧ ∀ i (h : i < xs.length), At I A (i * 2) (itC xs[i])
theorem RepN.items {I : Imm} {v : Value} {rs : List (List Int)} (h : RepN I v 2 rs) : ∃ xs, RepIt I v xs := by
  obtain ⟨A, c, rfl, h1, h2, h3⟩ := h
  refine ⟨rs.map fun r => (r.getD 0 0, r.getD 1 0), A, c, by simp, by simpa using h1, by simpa using h2, fun i hi => ?_⟩
  have hi' : i < rs.length := by simpa using hi
  obtain ⟨e, hat⟩ := h3 i hi'
  have : rs[i].map (Value.int .i64) = itC ((rs.map fun r => (r.getD 0 0, r.getD 1 0))[i]) := by
    rw [List.getElem_map]
    rcases q : rs[i] with _ | ⟨a, _ | ⟨b, _ | ⟨_, _⟩⟩⟩ <;> rw [q] at e <;> simp at e
    rfl
  rw [← this]; exact hat
end Go.Proofs.Ythbcdffldcdfoaa
/- Walks: the document's answer on heaps: rows that are gone through. -/
set_option linter.unusedVariables false
set_option linter.unusedSimpArgs false
set_option linter.unnecessarySimpa false
/- short -/
namespace Go.Proofs.Ythbcdffldcdfoaa
open Go Lg

abbrev RHE (rb : Nat) (tt : TypeId) (rest : List Value) (A : Option Addr) (c : Nat) (xs : List It) : List Ent := [.box rb tt (.slice A xs.length c :: rest), .row (.slice A xs.length c) 57 2 xs.length (itL xs)]
theorem itL_app (xs ys : List It) : itL (xs ++ ys) = itL xs ++ itL ys := by simp [itL]
theorem itL_dropn (xs : List It) (n : Nat) (h : n ≤ xs.length) : itL (xs.drop n) = (itL xs).drop (n * 2) := by
  have h1 := itL_app (xs.take n) (xs.drop n)
  rw [List.take_append_drop] at h1
  have h2 : (itL (xs.take n)).length = n * 2 := by rw [itL_len, List.length_take]; omega
  rw [h1, ← h2, List.drop_left]
theorem itL_one (xs : List It) : ∀ u ∈ itL xs, u.oneCell' = true := by
  intro u hu
  simp only [itL, List.mem_flatMap, List.mem_cons, List.not_mem_nil, or_false] at hu
  obtain ⟨x, _, rfl | rfl⟩ := hu <;> rfl
theorem cut_perm {xs : List It} {j : Nat} (h : j < xs.length) : xs.Perm (gt xs j :: (xs.take j ++ xs.drop (j + 1))) := by
  have e : xs = xs.take j ++ (gt xs j :: xs.drop (j + 1)) := by rw [gt_at h, ← List.drop_eq_getElem_cons h, List.take_append_drop]
  exact (List.Perm.of_eq e).trans List.perm_middle
theorem Cells_take {I : Imm} {A : Option Addr} {vs : List Value} (h : Cells I A vs) (n : Nat) : Cells I A (vs.take n) := fun j v hj => h j v (by
  rw [List.getElem?_take] at hj
  by_cases q : j < n
  · rwa [if_pos q] at hj
  · rw [if_neg q] at hj; cases hj)
theorem Cells_cut {I : Imm} {A : Option Addr} {c m size : Nat} {vs : List Value} (h : Cells I A vs) (hl : vs.length ≤ c * size) : Cells I (cutAt A c m size) (vs.drop (m * size)) := fun j v hj => by
  rw [List.getElem?_drop] at hj
  unfold cutAt
  by_cases e : c = m
  · exfalso
    have := (List.getElem?_eq_some_iff.1 hj).1
    subst e; omega
  · rw [if_neg e]
    have := h _ _ hj
    cases A with
    | none => simp [Imm.cellO] at this
    | some a => simpa [add_add] using this
theorem stL_head (x y : Value) (r : List Value) : stL (x :: r) 0 [y] = some (y :: r) := by cases r <;> rfl
theorem at_does {I : Imm} {rb c : Nat} {tt : TypeId} {rest : List Value} {A : Option Addr} {xs : List It} {id : Int} (hl : xs.length ≤ 1000000) :
    Does Try.prog 55 [.pointer (some ⟨rb, 0, none⟩), .int .i64 id] I (RHE rb tt rest A c xs) (fun v _ δ' => ((v = .int .i64 (-1) ∧ id ∉ xs.map (·.2)) ∨ ∃ j : Nat, v = .int .i64 j ∧ j < xs.length ∧ (gt xs j).2 = id) ∧ δ' = RHE rb tt rest A c xs) := by
  refine Does.intro Try.func55 rfl Try.ntmps55 rfl fun w0 => ?_
  refine code_seq ?_
  refine code_region ?_
  refine op_v (v_assign rfl) rfl ?_
  refine ops_nil ?_
  refine post_next ?_
  refine code_seq ?_
  refine code_seq ?_
  refine code_region ?_
  refine op_v (v_assign rfl) rfl ?_
  refine ops_nil ?_
  refine post_next ?_
  refine code_block ?_
  refine code_loop (fun m σ' I' δ' => ∃ k : Nat, m = xs.length - k ∧ σ' = [(0, .pointer (some ⟨rb, 0, none⟩)), (1, .int .i64 id), (5, .int .i64 k)] ∧ I' = I ∧ δ' = RHE rb tt rest A c xs ∧ k ≤ xs.length ∧ ∀ j, j < k → (gt xs j).2 ≠ id) (xs.length - 0) [(0, .pointer (some ⟨rb, 0, none⟩)), (1, .int .i64 id), (5, .int .i64 (0 : Nat))] ⟨0, rfl, rfl, rfl, rfl, ⟨Nat.zero_le _, fun j h => by omega⟩⟩ ⟨rfl, rfl, rfl, trivial⟩ ?_
  rintro m _ _ _ ⟨k, rfl, rfl, rfl, rfl, hp⟩
  obtain ⟨hk, hp⟩ := hp
  refine code_seq ?_
  refine code_seq ?_
  refine code_region ?_
  refine op_v (v_move rfl) rfl ?_
  refine op_v (v_move rfl) rfl ?_
  refine op_v (v_nilCheck rfl) rfl ?_
  first | refine op_v (v_fieldB 0 Try.underlying53 rfl rfl fz51 rfl) rfl ?_ | refine op_v (v_fieldI 0 Try.underlying53 rfl rfl fz51 rfl (by assumption)) rfl ?_ | refine op_v (v_field Try.underlying53 rfl fz51 rfl rfl) rfl ?_
  refine op_v (v_loadA ty51 rfl rfl) rfl ?_
  refine op_v (v_len Try.underlying51 rfl) rfl ?_
  first | refine op_v (v_cmptA rfl rfl rfl) rfl ?_ | refine op_v (v_cmpfA rfl rfl rfl) rfl ?_ | refine op_v (v_cmp rfl rfl rfl) rfl ?_
  refine ops_nil ?_
  refine post_next ?_
  refine code_cond rfl (fun hc0 => ?_) (fun hc0 => ?_)
  · have hlt : k < xs.length := by simpa using hc0
    refine code_skip ?_
    refine post_next ?_
    refine code_seq ?_
    refine code_block ?_
    refine code_seq ?_
    refine code_region ?_
    refine op_v (v_move rfl) rfl ?_
    refine op_v (v_nilCheck rfl) rfl ?_
    first | refine op_v (v_fieldB 0 Try.underlying53 rfl rfl fz51 rfl) rfl ?_ | refine op_v (v_fieldI 0 Try.underlying53 rfl rfl fz51 rfl (by assumption)) rfl ?_ | refine op_v (v_field Try.underlying53 rfl fz51 rfl rfl) rfl ?_
    refine op_v (v_loadA ty51 rfl rfl) rfl ?_
    refine op_v (v_move rfl) rfl ?_
    refine OpsJ.rowSome (Has.there Has.here) (by omega) (fun hA hcr => ?_)
    first | refine op_v (v_indexA Try.underlying51 sz57 rfl rfl) rfl ?_ | refine op_v (v_indexIA Try.underlying51 sz57 rfl rfl) rfl ?_
    first | refine op_v (v_fieldB 1 Try.underlying57 rfl rfl fz3 rfl) rfl ?_ | refine op_v (v_fieldI 1 Try.underlying57 rfl rfl fz3 rfl (by assumption)) rfl ?_ | refine op_v (v_field Try.underlying57 rfl fz3 rfl rfl) rfl ?_
    refine op_v (v_loadRow ty3 rfl (Has.there Has.here) hA (ld_id hlt)) rfl ?_
    refine op_v (v_move rfl) rfl ?_
    first | refine op_v (v_cmptA rfl rfl rfl) rfl ?_ | refine op_v (v_cmpfA rfl rfl rfl) rfl ?_ | refine op_v (v_cmp rfl rfl rfl) rfl ?_
    refine ops_nil ?_
    refine post_next ?_
    refine code_cond rfl (fun hc1 => ?_) (fun hc1 => ?_)
    · have heq : (gt xs k).2 = id := by simpa using hc1
      refine code_seq ?_
      refine code_region ?_
      refine op_v (v_move rfl) rfl ?_
      refine op_v (v_assign rfl) rfl ?_
      refine ops_nil ?_
      refine post_next ?_
      refine code_ret ?_
      refine post_ret_block ?_
      refine post_ret_then ?_
      refine post_ret_then ?_
      refine post_ret_block ?_
      refine post_ret_then ?_
      refine post_ret (rs := [.tmp 4]) rfl (List.Perm.refl _) (.cons (.tmp rfl) .nil) (List.Sublist.refl _) ?_
      exact ⟨.inr ⟨k, rfl, hlt, heq⟩, rfl⟩
    · have hne : (gt xs k).2 ≠ id := by simpa using hc1
      refine code_skip ?_
      refine post_out ?_
      refine post_next ?_
      refine code_region ?_
      refine op_v (v_move rfl) rfl ?_
      first | refine op_v (v_addb rfl rfl rfl (by omega)) rfl ?_ | refine op_v (v_add rfl rfl) rfl ?_
      refine op_v (v_assign rfl) rfl ?_
      refine ops_nil ?_
      refine post_again (xs.length - (k + 1)) [(0, .pointer (some ⟨rb, 0, none⟩)), (1, .int .i64 id), (5, .int .i64 (k + 1 : Nat))] (by omega) ⟨k + 1, rfl, rfl, rfl, rfl, ⟨hlt, fun j hj => by rcases Nat.lt_succ_iff_lt_or_eq.1 hj with h | h; exact hp j h; exact h ▸ hne⟩⟩ ⟨rfl, rfl, rfl, trivial⟩
  · have hge : k = xs.length := by simp at hc0; omega
    refine code_exit ?_
    refine post_exit_then ?_
    refine post_exit_then ?_
    refine post_exit ?_
    refine post_next ?_
    refine code_seq ?_
    refine code_region ?_
    refine op_v (v_assign rfl) rfl ?_
    refine ops_nil ?_
    refine post_next ?_
    refine code_ret ?_
    refine post_ret (rs := [.tmp 4]) rfl (List.Perm.refl _) (.cons (.tmp rfl) .nil) (List.Sublist.refl _) ?_
    exact ⟨.inl ⟨rfl, fun h => by obtain ⟨j, hj, e⟩ := mem_gt.1 h; exact hp j (by omega) e⟩, rfl⟩
theorem RHPut_does {I : Imm} {rb c : Nat} {tt : TypeId} {rest : List Value} {A : Option Addr} {xs : List It} {x : It} (hl : xs.length ≤ 1000000) :
    Does Try.prog 25 [.pointer (some ⟨rb, 0, none⟩), itV x] I (RHE rb tt rest A c xs) (fun v _ δ' => ∃ e A' c' ys, v = .int .i64 e ∧ PutH xs x e ys ∧ δ' = RHE rb tt rest A' c' ys) := by
  refine Does.intro Try.func25 rfl Try.ntmps25 rfl fun w0 => ?_
  refine code_seq ?_
  refine code_region ?_
  refine o_box rfl rfl rfl (fun b3 => ?_)
  refine op_v (v_assign rfl) rfl ?_
  refine ops_nil ?_
  refine post_next ?_
  refine code_seq ?_
  refine code_seq ?_
  refine code_region ?_
  refine op_v (v_move rfl) rfl ?_
  first | refine op_v (v_fieldB 1 Try.underlying57 rfl rfl fz3 rfl) rfl ?_ | refine op_v (v_fieldI 1 Try.underlying57 rfl rfl fz3 rfl (by assumption)) rfl ?_ | refine op_v (v_field Try.underlying57 rfl fz3 rfl rfl) rfl ?_
  refine op_v (v_loadA ty3 rfl rfl) rfl ?_
  refine op_call pl55 rfl rfl ((at_does hl)) (List.perm_append_comm (l₁ := [_])) ?_
  rintro v8 I8 _ hI8 ⟨HR8, rfl⟩
  refine OpsJ.view (View.perm (List.perm_append_comm (l₂ := [_]))) ?_
  rcases HR8 with ⟨rfl, hno⟩ | ⟨j, rfl, hj, hje⟩
  · first | refine op_v (v_cmptA rfl rfl rfl) rfl ?_ | refine op_v (v_cmpfA rfl rfl rfl) rfl ?_ | refine op_v (v_cmp rfl rfl rfl) rfl ?_
    refine ops_nil ?_
    refine post_next ?_
    refine code_cond_f rfl ?_
    refine code_skip ?_
    refine post_next ?_
    refine code_seq ?_
    refine code_seq ?_
    refine code_region ?_
    refine op_v (v_move rfl) rfl ?_
    refine op_v (v_nilCheck rfl) rfl ?_
    first | refine op_v (v_fieldB 0 Try.underlying53 rfl rfl fz51 rfl) rfl ?_ | refine op_v (v_fieldI 0 Try.underlying53 rfl rfl fz51 rfl (by assumption)) rfl ?_ | refine op_v (v_field Try.underlying53 rfl fz51 rfl rfl) rfl ?_
    refine op_v (v_loadA ty51 rfl rfl) rfl ?_
    refine op_v (v_len Try.underlying51 rfl) rfl ?_
    by_cases h15 : 4096 ≤ xs.length
    · first | refine op_v (v_cmptA rfl rfl rfl) rfl ?_ | refine op_v (v_cmpfA rfl rfl rfl) rfl ?_ | refine op_v (v_cmp rfl rfl rfl) rfl ?_
      refine ops_nil ?_
      refine post_next ?_
      refine code_cond_t rfl ?_
      refine code_seq ?_
      refine code_region ?_
      refine op_v (v_assign rfl) rfl ?_
      refine ops_nil ?_
      refine post_next ?_
      refine code_ret ?_
      refine post_ret_then ?_
      refine post_ret (rs := [.tmp 4]) rfl (List.Perm.refl _) (.cons (.tmp rfl) .nil) (List.Sublist.cons _ (List.Sublist.refl _)) ?_
      exact ⟨9, A, c, xs, rfl, .inr (.inl ⟨hno, h15, rfl, rfl⟩), rfl⟩
    · first | refine op_v (v_cmptA rfl rfl rfl) rfl ?_ | refine op_v (v_cmpfA rfl rfl rfl) rfl ?_ | refine op_v (v_cmp rfl rfl rfl) rfl ?_
      refine ops_nil ?_
      refine post_next ?_
      refine code_cond_f rfl ?_
      refine code_skip ?_
      refine post_next ?_
      refine code_seq ?_
      refine code_draw (.fl 0 (.fl 1 (.fl 2 (.fl 3 (.fl 4 (.fl 5 (.ef 6 (.ef 7 (.fl 8 (.fl 9 (.ef 10 .done))))))))))) (two 6 [.box b3 57 [.int .i64 x.1, .int .i64 x.2], .box rb tt (.slice A xs.length c :: rest)] []) mixed (by kernel_rfl) (by kernel_rfl) (two_sub (List.Sublist.cons_cons _ (List.Sublist.cons_cons _ (List.nil_sublist _))) (List.nil_sublist _)) ?_
      refine e_float rfl rfl (fun hs_ => PF.mk rfl (v_move rfl) hs_) Imm.leA (by intro x hx; first | (change x ∈ [] at hx; cases hx) | (change x ∈ [_, _] at hx; simp only [List.mem_cons, List.not_mem_nil, or_false] at hx; rcases hx with h | h <;> subst h <;> simp [cellsL])) ?_
      refine e_float rfl rfl (fun hs_ => PF.mk rfl (v_move rfl) hs_) Imm.leA (by intro x hx; first | (change x ∈ [] at hx; cases hx) | (change x ∈ [_, _] at hx; simp only [List.mem_cons, List.not_mem_nil, or_false] at hx; rcases hx with h | h <;> subst h <;> simp [cellsL])) ?_
      refine e_float rfl rfl (fun hs_ => PF.mk rfl (v_nilCheck rfl) hs_) Imm.leA (by intro x hx; first | (change x ∈ [] at hx; cases hx) | (change x ∈ [_, _] at hx; simp only [List.mem_cons, List.not_mem_nil, or_false] at hx; rcases hx with h | h <;> subst h <;> simp [cellsL])) ?_
      first | refine e_float rfl rfl (fun hs_ => PF.mk rfl (v_fieldB 0 Try.underlying53 rfl rfl fz51 rfl) hs_) Imm.leA (by intro x hx; first | (change x ∈ [] at hx; cases hx) | (change x ∈ [_, _] at hx; simp only [List.mem_cons, List.not_mem_nil, or_false] at hx; rcases hx with h | h <;> subst h <;> simp [cellsL])) ?_ | refine e_float rfl rfl (fun hs_ => PF.mk rfl (v_fieldI 0 Try.underlying53 rfl rfl fz51 rfl (by assumption)) hs_) Imm.leA (by intro x hx; first | (change x ∈ [] at hx; cases hx) | (change x ∈ [_, _] at hx; simp only [List.mem_cons, List.not_mem_nil, or_false] at hx; rcases hx with h | h <;> subst h <;> simp [cellsL])) ?_ | refine e_float rfl rfl (fun hs_ => PF.mk rfl (v_field Try.underlying53 rfl fz51 rfl rfl) hs_) Imm.leA (by intro x hx; first | (change x ∈ [] at hx; cases hx) | (change x ∈ [_, _] at hx; simp only [List.mem_cons, List.not_mem_nil, or_false] at hx; rcases hx with h | h <;> subst h <;> simp [cellsL])) ?_
      refine e_float rfl rfl (fun hs_ => PF.mk rfl (v_loadA ty51 rfl rfl) hs_) Imm.leA (by intro x hx; first | (change x ∈ [] at hx; cases hx) | (change x ∈ [_, _] at hx; simp only [List.mem_cons, List.not_mem_nil, or_false] at hx; rcases hx with h | h <;> subst h <;> simp [cellsL])) ?_
      refine e_float rfl rfl (fun hs_ => PF.mk rfl (v_loadA ty57 rfl rfl) hs_) Imm.leA (by intro x hx; first | (change x ∈ [] at hx; cases hx) | (change x ∈ [_, _] at hx; simp only [List.mem_cons, List.not_mem_nil, or_false] at hx; rcases hx with h | h <;> subst h <;> simp [cellsL])) ?_
      refine e_eff rfl (by intro cs b hc; cases hc) (by intro c hc; cases hc) ?_
      refine o_buildSlice (xs := [(Go.Operand.tmp 21)]) Try.underlying51 bs57 rfl rfl rfl rfl rfl (fun b22 => ?_)
      refine ops_nil ?_
      refine e_next rfl (side_twoA (Imm.le_refl _) (by intro x hx; simp only [List.mem_cons, List.not_mem_nil, or_false] at hx; rcases hx with h | h <;> subst h <;> simp [cellsL]) (by intro x hx; cases hx)) ?_
      refine e_eff rfl (by intro cs b hc; cases hc) (by intro c hc; cases hc) ?_
      refine o_append Try.underlying51 bs57 rfl rfl rfl (fun v' => by repeat (first | exact Swap.here | apply Swap.there)) (Src.ofRow (by repeat (first | exact Has.here | apply Has.there)) rfl) (by first | rfl | omega | simp) (by simp [cat, cellsL, Value.oneCell']) (by omega) (by omega) (fun a23 c23 => ?_)
      refine ops_nil ?_
      refine e_next rfl (side_twoA (Imm.le_refl _) (by intro x hx; simp only [List.mem_cons, List.not_mem_nil, or_false] at hx; rcases hx with h | h <;> subst h <;> simp [cellsL]) (by intro x hx; cases hx)) ?_
      refine e_float rfl rfl (fun hs_ => PF.mk rfl (v_nilCheck rfl) hs_) Imm.leA (by intro x hx; first | (change x ∈ [] at hx; cases hx) | (change x ∈ [_, _] at hx; simp only [List.mem_cons, List.not_mem_nil, or_false] at hx; rcases hx with h | h <;> subst h <;> simp [cellsL])) ?_
      first | refine e_float rfl rfl (fun hs_ => PF.mk rfl (v_fieldB 0 Try.underlying53 rfl rfl fz51 rfl) hs_) Imm.leA (by intro x hx; first | (change x ∈ [] at hx; cases hx) | (change x ∈ [_, _] at hx; simp only [List.mem_cons, List.not_mem_nil, or_false] at hx; rcases hx with h | h <;> subst h <;> simp [cellsL])) ?_ | refine e_float rfl rfl (fun hs_ => PF.mk rfl (v_fieldI 0 Try.underlying53 rfl rfl fz51 rfl (by assumption)) hs_) Imm.leA (by intro x hx; first | (change x ∈ [] at hx; cases hx) | (change x ∈ [_, _] at hx; simp only [List.mem_cons, List.not_mem_nil, or_false] at hx; rcases hx with h | h <;> subst h <;> simp [cellsL])) ?_ | refine e_float rfl rfl (fun hs_ => PF.mk rfl (v_field Try.underlying53 rfl fz51 rfl rfl) hs_) Imm.leA (by intro x hx; first | (change x ∈ [] at hx; cases hx) | (change x ∈ [_, _] at hx; simp only [List.mem_cons, List.not_mem_nil, or_false] at hx; rcases hx with h | h <;> subst h <;> simp [cellsL])) ?_
      refine e_eff rfl (by intro cs b hc; cases hc) (by intro c hc; cases hc) ?_
      refine o_store (cs' := .slice a23 (xs.length + 1) c23 :: rest) ty51 rfl rfl rfl rfl rfl (by repeat (first | exact Swap.here | apply Swap.there)) (stL_head _ _ _) ?_
      refine ops_nil ?_
      refine e_next_ (side_two (by kernel_rfl) (Imm.le_refl _) (by intro x hx; cases hx)) ?_
      refine e_done ?_
      refine post_next ?_
      refine code_seq ?_
      refine code_region ?_
      refine op_v (v_assign rfl) rfl ?_
      refine ops_nil ?_
      refine post_next ?_
      refine code_ret ?_
      refine post_ret (rs := [.tmp 4]) rfl (List.Perm.refl _) (.cons (.tmp rfl) .nil) (List.Sublist.cons _ (List.Sublist.cons _ (List.Sublist.refl _))) ?_
      exact ⟨0, a23, c23, xs ++ [x], rfl, .inr (.inr ⟨hno, by omega, rfl, List.Perm.refl _⟩), by simp [RHE, itL_snoc, cat, cellsL]⟩
  · first | refine op_v (v_cmptA rfl rfl rfl) rfl ?_ | refine op_v (v_cmpfA rfl rfl rfl) rfl ?_ | refine op_v (v_cmp rfl rfl rfl) rfl ?_
    refine ops_nil ?_
    refine post_next ?_
    refine code_cond_t rfl ?_
    refine code_seq ?_
    refine code_region ?_
    refine op_v (v_assign rfl) rfl ?_
    refine ops_nil ?_
    refine post_next ?_
    refine code_ret ?_
    refine post_ret_then ?_
    refine post_ret (rs := [.tmp 4]) rfl (List.Perm.refl _) (.cons (.tmp rfl) .nil) (List.Sublist.cons _ (List.Sublist.refl _)) ?_
    exact ⟨1, A, c, xs, rfl, .inl ⟨mem_gt.2 ⟨j, hj, hje⟩, rfl, rfl⟩, rfl⟩
theorem RHDrop_does {I : Imm} {rb c : Nat} {tt : TypeId} {rest : List Value} {A : Option Addr} {xs : List It} {id : Int} (hl : xs.length ≤ 1000000) :
    Does Try.prog 27 [.pointer (some ⟨rb, 0, none⟩), .int .i64 id] I (RHE rb tt rest A c xs) (fun v _ δ' => ∃ b A' c' ys, v = .bool b ∧ DropH xs id b ys ∧ δ' = RHE rb tt rest A' c' ys) := by
  refine Does.intro Try.func27 rfl Try.ntmps27 rfl fun w0 => ?_
  refine code_seq ?_
  refine code_region ?_
  refine op_v (v_assign rfl) rfl ?_
  refine ops_nil ?_
  refine post_next ?_
  refine code_seq ?_
  refine code_region ?_
  refine op_v (v_move rfl) rfl ?_
  refine op_v (v_move rfl) rfl ?_
  refine op_call pl55 rfl rfl ((at_does hl)) Parts.all ?_
  rintro v9 I9 _ hI9 ⟨HR9, rfl⟩
  rw [List.append_nil]
  refine op_v (v_assign rfl) rfl ?_
  refine ops_nil ?_
  refine post_next ?_
  refine code_seq ?_
  refine code_seq ?_
  refine code_region ?_
  refine op_v (v_move rfl) rfl ?_
  rcases HR9 with ⟨rfl, hno⟩ | ⟨j, rfl, hj, hje⟩
  · first | refine op_v (v_cmptA rfl rfl rfl) rfl ?_ | refine op_v (v_cmpfA rfl rfl rfl) rfl ?_ | refine op_v (v_cmp rfl rfl rfl) rfl ?_
    refine ops_nil ?_
    refine post_next ?_
    refine code_cond_t rfl ?_
    refine code_seq ?_
    refine code_region ?_
    refine op_v (v_assign rfl) rfl ?_
    refine ops_nil ?_
    refine post_next ?_
    refine code_ret ?_
    refine post_ret_then ?_
    refine post_ret (rs := [.tmp 4]) rfl (List.Perm.refl _) (.cons (.tmp rfl) .nil) (List.Sublist.refl _) ?_
    exact ⟨false, A, c, xs, rfl, .inl ⟨hno, rfl, rfl⟩, rfl⟩
  · first | refine op_v (v_cmptA rfl rfl rfl) rfl ?_ | refine op_v (v_cmpfA rfl rfl rfl) rfl ?_ | refine op_v (v_cmp rfl rfl rfl) rfl ?_
    refine ops_nil ?_
    refine post_next ?_
    refine code_cond_f rfl ?_
    refine code_skip ?_
    refine post_next ?_
    refine code_seq ?_
    refine code_region ?_
    refine op_v (v_assign rfl) rfl ?_
    refine ops_nil ?_
    refine post_next ?_
    refine code_seq ?_
    refine code_region ?_
    refine OpsJ.rowSome (Has.there Has.here) (by omega) (fun hA hcr => ?_)
    refine OpsJ.freezeRow (Del.there Del.here) ?_
    rintro I12 a12 c12 hI12 hq hc12 hl12 hcells
    cases hq
    have hcut := Cells_cut (c := c) (m := j + 1) (size := 2) hcells (by rw [itL_len]; omega)
    have hlt : ((itL xs).take (j * 2)).length = j * 2 := by rw [List.length_take, itL_len]; omega
    have hld : ((itL xs).drop ((j + 1) * 2)).length = (xs.length - (j + 1)) * 2 := by rw [List.length_drop, itL_len]; omega
    refine OpsJ.view (View.nilRow 57 2) ?_
    refine op_v (v_move rfl) rfl ?_
    refine op_v (v_move rfl) rfl ?_
    refine op_v (v_nilCheck rfl) rfl ?_
    first | refine op_v (v_fieldB 0 Try.underlying53 rfl rfl fz51 rfl) rfl ?_ | refine op_v (v_fieldI 0 Try.underlying53 rfl rfl fz51 rfl (by assumption)) rfl ?_ | refine op_v (v_field Try.underlying53 rfl fz51 rfl rfl) rfl ?_
    refine op_v (v_loadA ty51 rfl rfl) rfl ?_
    refine op_v (v_move rfl) rfl ?_
    refine op_v (v_sliceTo Try.underlying51 sz57 rfl rfl (by omega)) rfl ?_
    refine o_append Try.underlying51 bs57 rfl rfl rfl (fun v' => by repeat (first | exact Swap.here | apply Swap.there)) (Src.ofI (Cells_take hcells (j * 2))) (by omega) (fun u hu => itL_one xs u (List.mem_of_mem_take hu)) (by omega) (by omega) (fun a19 c19 => ?_)
    refine op_v (v_assign rfl) rfl ?_
    refine ops_nil ?_
    refine post_next ?_
    refine code_seq ?_
    refine code_region ?_
    refine op_v (v_move rfl) rfl ?_
    refine op_v (v_move rfl) rfl ?_
    refine op_v (v_move rfl) rfl ?_
    refine op_v (v_nilCheck rfl) rfl ?_
    first | refine op_v (v_fieldB 0 Try.underlying53 rfl rfl fz51 rfl) rfl ?_ | refine op_v (v_fieldI 0 Try.underlying53 rfl rfl fz51 rfl (by assumption)) rfl ?_ | refine op_v (v_field Try.underlying53 rfl fz51 rfl rfl) rfl ?_
    refine op_v (v_loadA ty51 rfl rfl) rfl ?_
    refine op_v (v_move rfl) rfl ?_
    first | refine op_v (v_addb rfl rfl rfl (by omega)) rfl ?_ | refine op_v (v_add rfl rfl) rfl ?_
    refine op_v (v_sliceFrom Try.underlying51 sz57 rfl rfl (by first | omega | (simp; done) | (simp; omega)) (by assumption)) rfl ?_
    refine o_append Try.underlying51 bs57 rfl rfl rfl (fun v' => by repeat (first | exact Swap.here | apply Swap.there)) (Src.ofI hcut) (by omega) (fun u hu => itL_one xs u (List.mem_of_mem_drop hu)) (by omega) (by omega) (fun a29 c29 => ?_)
    refine op_v (v_nilCheck rfl) rfl ?_
    first | refine op_v (v_fieldB 0 Try.underlying53 rfl rfl fz51 rfl) rfl ?_ | refine op_v (v_fieldI 0 Try.underlying53 rfl rfl fz51 rfl (by assumption)) rfl ?_ | refine op_v (v_field Try.underlying53 rfl fz51 rfl rfl) rfl ?_
    refine o_store ty51 rfl rfl rfl rfl rfl (by repeat (first | exact Swap.here | apply Swap.there)) (stL_head _ _ _) ?_
    refine ops_nil ?_
    refine post_next ?_
    refine code_seq ?_
    refine code_region ?_
    refine op_v (v_assign rfl) rfl ?_
    refine ops_nil ?_
    refine post_next ?_
    refine code_ret ?_
    refine post_ret (rs := [.tmp 4]) rfl ((List.Perm.swap _ _ _)) (.cons (.tmp rfl) .nil) (List.Sublist.refl _) ?_
    refine ⟨true, a29, c29, xs.take j ++ xs.drop (j + 1), rfl, .inr ⟨gt xs j, hje, rfl, cut_perm hj⟩, ?_⟩
    have e1 : (xs.take j ++ xs.drop (j + 1)).length = 0 + j + (xs.length - (j + 1)) := by rw [List.length_append, List.length_take, List.length_drop]; omega
    have e2 : itL (xs.take j ++ xs.drop (j + 1)) = [] ++ (itL xs).take (j * 2) ++ (itL xs).drop ((j + 1) * 2) := by rw [itL_app, itL_take, itL_dropn _ _ (by omega)]; rfl
    rw [RHE, e1, e2]
def MinR (xs : List It) (m : It) : Prop := (xs.length = 0 → m = (0, 0)) ∧ (0 < xs.length → m ∈ xs ∧ ∀ z ∈ xs, leI m z)
theorem MinR.eq {xs ys : List It} {m : It} (h : MinR ys m) (hp : xs.Perm ys) (hh : IsHeap xs) : m = gt xs 0 := by
  have hl := hp.length_eq
  by_cases e : xs.length = 0
  · rw [h.1 (by omega)]
    have : xs = [] := List.eq_nil_of_length_eq_zero e
    subst this; rfl
  · obtain ⟨h1, h2⟩ := h.2 (by omega)
    exact leI_antisymm (h2 _ (hp.mem_iff.1 (gt_mem (by omega)))) (min_mem hh (hp.mem_iff.2 h1))
theorem RHMin_does {I : Imm} {rb c : Nat} {tt : TypeId} {rest : List Value} {A : Option Addr} {xs : List It} (hl : xs.length ≤ 1000000) :
    Does Try.prog 29 [.pointer (some ⟨rb, 0, none⟩)] I (RHE rb tt rest A c xs) (fun v _ δ' => ∃ m, v = .tuple #[itV m, .bool (decide (0 < xs.length))] ∧ MinR xs m ∧ δ' = RHE rb tt rest A c xs) := by
  refine Does.intro Try.func29 rfl Try.ntmps29 rfl fun w0 => ?_
  refine code_seq ?_
  refine code_region ?_
  refine o_alloc z57 rfl rfl (fun b2 => ?_)
  refine op_v (v_assign rfl) rfl ?_
  refine ops_nil ?_
  refine post_next ?_
  refine code_seq ?_
  refine code_region ?_
  refine o_alloc z57 rfl rfl (fun b4 => ?_)
  refine ops_nil ?_
  refine post_next ?_
  refine code_seq ?_
  refine code_seq ?_
  refine code_region ?_
  refine op_v (v_assign rfl) rfl ?_
  refine ops_nil ?_
  refine post_next ?_
  refine code_block ?_
  refine code_loop (fun m σ' I' δ' => ∃ (k : Nat) (best : It), m = xs.length - k ∧ k ≤ xs.length ∧ σ' = [(0, .pointer (some ⟨rb, 0, none⟩)), (2, .pointer (some ⟨b2, 0, none⟩)), (4, .pointer (some ⟨b4, 0, none⟩)), (5, .int .i64 k)] ∧ I = I' ∧ δ' = .box b4 57 [.int .i64 best.1, .int .i64 best.2] :: .box b2 57 [.int .i64 0, .int .i64 0] :: RHE rb tt rest A c xs ∧ (k = 0 → best = (0, 0)) ∧ (0 < k → best ∈ xs ∧ ∀ j, j < k → leI best (gt xs j))) xs.length [(0, .pointer (some ⟨rb, 0, none⟩)), (2, .pointer (some ⟨b2, 0, none⟩)), (4, .pointer (some ⟨b4, 0, none⟩)), (5, .int .i64 (0 : Nat))] ⟨0, (0, 0), rfl, by omega, rfl, rfl, rfl, fun _ => rfl, fun h => by omega⟩ ⟨rfl, rfl, rfl, rfl, trivial⟩ ?_
  rintro m _ _ _ ⟨k, best, rfl, hk, rfl, rfl, rfl, hb0, hb1⟩
  refine code_seq ?_
  refine code_seq ?_
  refine code_region ?_
  refine op_v (v_move rfl) rfl ?_
  refine op_v (v_move rfl) rfl ?_
  refine op_v (v_nilCheck rfl) rfl ?_
  first | refine op_v (v_fieldB 0 Try.underlying53 rfl rfl fz51 rfl) rfl ?_ | refine op_v (v_fieldI 0 Try.underlying53 rfl rfl fz51 rfl (by assumption)) rfl ?_ | refine op_v (v_field Try.underlying53 rfl fz51 rfl rfl) rfl ?_
  refine op_v (v_loadA ty51 rfl rfl) rfl ?_
  refine op_v (v_len Try.underlying51 rfl) rfl ?_
  first | refine op_v (v_cmptA rfl rfl rfl) rfl ?_ | refine op_v (v_cmpfA rfl rfl rfl) rfl ?_ | refine op_v (v_cmp rfl rfl rfl) rfl ?_
  refine ops_nil ?_
  refine post_next ?_
  refine code_cond rfl (fun hc0 => ?_) (fun hc0 => ?_)
  · have hlt : k < xs.length := by simpa using hc0
    have hxm : gt xs k ∈ xs := by rw [gt_at hlt]; exact List.getElem_mem hlt
    refine code_skip ?_
    refine post_next ?_
    refine code_seq ?_
    refine code_block ?_
    refine code_seq ?_
    refine code_region ?_
    refine op_v (v_move rfl) rfl ?_
    refine op_v (v_nilCheck rfl) rfl ?_
    first | refine op_v (v_fieldB 0 Try.underlying53 rfl rfl fz51 rfl) rfl ?_ | refine op_v (v_fieldI 0 Try.underlying53 rfl rfl fz51 rfl (by assumption)) rfl ?_ | refine op_v (v_field Try.underlying53 rfl fz51 rfl rfl) rfl ?_
    refine op_v (v_loadA ty51 rfl rfl) rfl ?_
    refine op_v (v_move rfl) rfl ?_
    refine OpsJ.rowSome (Has.there (Has.there (Has.there Has.here))) (by omega) (fun hA hcr => ?_)
    first | refine op_v (v_indexA Try.underlying51 sz57 rfl rfl) rfl ?_ | refine op_v (v_indexIA Try.underlying51 sz57 rfl rfl) rfl ?_
    refine op_v (v_loadRow ty57 rfl (Has.there (Has.there (Has.there Has.here))) hA (ld_it hlt)) rfl ?_
    refine o_alloc z57 rfl rfl (fun b6 => ?_)
    refine o_store ty57 rfl rfl rfl rfl rfl (by repeat (first | exact Swap.here | apply Swap.there)) rfl ?_
    refine ops_nil ?_
    refine post_next ?_
    refine code_seq ?_
    refine code_region ?_
    refine op_v (v_move rfl) rfl ?_
    by_cases h24 : k = 0
    · first | refine op_v (v_cmptA rfl rfl rfl) rfl ?_ | refine op_v (v_cmpfA rfl rfl rfl) rfl ?_ | refine op_v (v_cmp rfl rfl rfl) rfl ?_
      refine op_v (v_move rfl) rfl ?_
      first
        | (refine op_want rfl rfl ?_
           first | refine op_v (v_fieldB 0 Try.underlying57 rfl rfl fz3 rfl) rfl ?_ | refine op_v (v_fieldI 0 Try.underlying57 rfl rfl fz3 rfl (by assumption)) rfl ?_ | refine op_v (v_field Try.underlying57 rfl fz3 rfl rfl) rfl ?_)
        | (refine op_skip rfl rfl (by simp [undef]) rfl ?_)
      first
        | (refine op_want rfl rfl ?_
           refine op_v (v_loadA ty3 rfl rfl) rfl ?_)
        | (refine op_skip rfl rfl (by simp [undef]) rfl ?_)
      first
        | (refine op_want rfl rfl ?_
           first | refine op_v (v_fieldB 0 Try.underlying57 rfl rfl fz3 rfl) rfl ?_ | refine op_v (v_fieldI 0 Try.underlying57 rfl rfl fz3 rfl (by assumption)) rfl ?_ | refine op_v (v_field Try.underlying57 rfl fz3 rfl rfl) rfl ?_)
        | (refine op_skip rfl rfl (by simp [undef]) rfl ?_)
      first
        | (refine op_want rfl rfl ?_
           refine op_v (v_loadA ty3 rfl rfl) rfl ?_)
        | (refine op_skip rfl rfl (by simp [undef]) rfl ?_)
      first
        | (refine op_want rfl rfl ?_
           first | refine op_v (v_cmptA rfl rfl rfl) rfl ?_ | refine op_v (v_cmpfA rfl rfl rfl) rfl ?_ | refine op_v (v_cmp rfl rfl rfl) rfl ?_)
        | (refine op_skip rfl rfl (by simp [undef]) rfl ?_)
      first | refine op_v (v_pickt rfl rfl) rfl ?_ | refine op_v (v_pickf rfl rfl) rfl ?_ | refine op_v (v_pickb rfl rfl rfl) rfl ?_
      refine op_v (v_move rfl) rfl ?_
      first
        | (refine op_want rfl rfl ?_
           first | refine op_v (v_fieldB 0 Try.underlying57 rfl rfl fz3 rfl) rfl ?_ | refine op_v (v_fieldI 0 Try.underlying57 rfl rfl fz3 rfl (by assumption)) rfl ?_ | refine op_v (v_field Try.underlying57 rfl fz3 rfl rfl) rfl ?_)
        | (refine op_skip rfl rfl (by simp [undef]) rfl ?_)
      first
        | (refine op_want rfl rfl ?_
           refine op_v (v_loadA ty3 rfl rfl) rfl ?_)
        | (refine op_skip rfl rfl (by simp [undef]) rfl ?_)
      first
        | (refine op_want rfl rfl ?_
           first | refine op_v (v_fieldB 0 Try.underlying57 rfl rfl fz3 rfl) rfl ?_ | refine op_v (v_fieldI 0 Try.underlying57 rfl rfl fz3 rfl (by assumption)) rfl ?_ | refine op_v (v_field Try.underlying57 rfl fz3 rfl rfl) rfl ?_)
        | (refine op_skip rfl rfl (by simp [undef]) rfl ?_)
      first
        | (refine op_want rfl rfl ?_
           refine op_v (v_loadA ty3 rfl rfl) rfl ?_)
        | (refine op_skip rfl rfl (by simp [undef]) rfl ?_)
      first
        | (refine op_want rfl rfl ?_
           first | refine op_v (v_cmptA rfl rfl rfl) rfl ?_ | refine op_v (v_cmpfA rfl rfl rfl) rfl ?_ | refine op_v (v_cmp rfl rfl rfl) rfl ?_)
        | (refine op_skip rfl rfl (by simp [undef]) rfl ?_)
      first
        | (refine op_want rfl rfl ?_
           refine op_v (v_move rfl) rfl ?_)
        | (refine op_skip rfl rfl (by simp [undef]) rfl ?_)
      first
        | (refine op_want rfl rfl ?_
           first | refine op_v (v_fieldB 1 Try.underlying57 rfl rfl fz3 rfl) rfl ?_ | refine op_v (v_fieldI 1 Try.underlying57 rfl rfl fz3 rfl (by assumption)) rfl ?_ | refine op_v (v_field Try.underlying57 rfl fz3 rfl rfl) rfl ?_)
        | (refine op_skip rfl rfl (by simp [undef]) rfl ?_)
      first
        | (refine op_want rfl rfl ?_
           refine op_v (v_loadA ty3 rfl rfl) rfl ?_)
        | (refine op_skip rfl rfl (by simp [undef]) rfl ?_)
      first
        | (refine op_want rfl rfl ?_
           first | refine op_v (v_fieldB 1 Try.underlying57 rfl rfl fz3 rfl) rfl ?_ | refine op_v (v_fieldI 1 Try.underlying57 rfl rfl fz3 rfl (by assumption)) rfl ?_ | refine op_v (v_field Try.underlying57 rfl fz3 rfl rfl) rfl ?_)
        | (refine op_skip rfl rfl (by simp [undef]) rfl ?_)
      first
        | (refine op_want rfl rfl ?_
           refine op_v (v_loadA ty3 rfl rfl) rfl ?_)
        | (refine op_skip rfl rfl (by simp [undef]) rfl ?_)
      first
        | (refine op_want rfl rfl ?_
           first | refine op_v (v_cmptA rfl rfl rfl) rfl ?_ | refine op_v (v_cmpfA rfl rfl rfl) rfl ?_ | refine op_v (v_cmp rfl rfl rfl) rfl ?_)
        | (refine op_skip rfl rfl (by simp [undef]) rfl ?_)
      first
        | (refine op_want rfl rfl ?_
           first | refine op_v (v_pickt rfl rfl) rfl ?_ | refine op_v (v_pickf rfl rfl) rfl ?_ | refine op_v (v_pickb rfl rfl rfl) rfl ?_)
        | (refine op_skip rfl rfl (by simp [undef]) rfl ?_)
      first | refine op_v (v_pickt rfl rfl) rfl ?_ | refine op_v (v_pickf rfl rfl) rfl ?_ | refine op_v (v_pickb rfl rfl rfl) rfl ?_
      refine ops_nil ?_
      refine post_next ?_
      refine code_cond_t rfl ?_
      refine code_region ?_
      refine op_v (v_loadA ty57 rfl rfl) rfl ?_
      refine o_store ty57 rfl rfl rfl rfl rfl (by repeat (first | exact Swap.here | apply Swap.there)) rfl ?_
      refine ops_nil ?_
      refine post_out ?_
      refine post_next ?_
      refine code_region ?_
      refine op_v (v_move rfl) rfl ?_
      first | refine op_v (v_addb rfl rfl rfl (by omega)) rfl ?_ | refine op_v (v_add rfl rfl) rfl ?_
      refine op_v (v_assign rfl) rfl ?_
      refine ops_nil ?_
      refine PostJ.view (View.drop Del.here) ?_
      refine post_again (xs.length - (k + 1)) [(0, .pointer (some ⟨rb, 0, none⟩)), (2, .pointer (some ⟨b2, 0, none⟩)), (4, .pointer (some ⟨b4, 0, none⟩)), (5, .int .i64 (k + 1 : Nat))] (by omega) ⟨k + 1, gt xs k, rfl, hlt, rfl, rfl, rfl, fun h => by omega, fun _ => ⟨hxm, fun j hj => by rw [show j = k by omega]; exact leI_refl _⟩⟩ ⟨rfl, rfl, rfl, rfl, trivial⟩
    · first | refine op_v (v_cmptA rfl rfl rfl) rfl ?_ | refine op_v (v_cmpfA rfl rfl rfl) rfl ?_ | refine op_v (v_cmp rfl rfl rfl) rfl ?_
      refine op_v (v_move rfl) rfl ?_
      first
        | (refine op_want rfl rfl ?_
           first | refine op_v (v_fieldB 0 Try.underlying57 rfl rfl fz3 rfl) rfl ?_ | refine op_v (v_fieldI 0 Try.underlying57 rfl rfl fz3 rfl (by assumption)) rfl ?_ | refine op_v (v_field Try.underlying57 rfl fz3 rfl rfl) rfl ?_)
        | (refine op_skip rfl rfl (by simp [undef]) rfl ?_)
      first
        | (refine op_want rfl rfl ?_
           refine op_v (v_loadA ty3 rfl rfl) rfl ?_)
        | (refine op_skip rfl rfl (by simp [undef]) rfl ?_)
      first
        | (refine op_want rfl rfl ?_
           first | refine op_v (v_fieldB 0 Try.underlying57 rfl rfl fz3 rfl) rfl ?_ | refine op_v (v_fieldI 0 Try.underlying57 rfl rfl fz3 rfl (by assumption)) rfl ?_ | refine op_v (v_field Try.underlying57 rfl fz3 rfl rfl) rfl ?_)
        | (refine op_skip rfl rfl (by simp [undef]) rfl ?_)
      first
        | (refine op_want rfl rfl ?_
           refine op_v (v_loadA ty3 rfl rfl) rfl ?_)
        | (refine op_skip rfl rfl (by simp [undef]) rfl ?_)
      by_cases h30 : (gt xs k).1 < best.1
      · first
          | (refine op_want rfl rfl ?_
             first | refine op_v (v_cmptA rfl rfl rfl) rfl ?_ | refine op_v (v_cmpfA rfl rfl rfl) rfl ?_ | refine op_v (v_cmp rfl rfl rfl) rfl ?_)
          | (refine op_skip rfl rfl (by simp [undef]) rfl ?_)
        first | refine op_v (v_pickt rfl rfl) rfl ?_ | refine op_v (v_pickf rfl rfl) rfl ?_ | refine op_v (v_pickb rfl rfl rfl) rfl ?_
        refine op_v (v_move rfl) rfl ?_
        first
          | (refine op_want rfl rfl ?_
             first | refine op_v (v_fieldB 0 Try.underlying57 rfl rfl fz3 rfl) rfl ?_ | refine op_v (v_fieldI 0 Try.underlying57 rfl rfl fz3 rfl (by assumption)) rfl ?_ | refine op_v (v_field Try.underlying57 rfl fz3 rfl rfl) rfl ?_)
          | (refine op_skip rfl rfl (by simp [undef]) rfl ?_)
        first
          | (refine op_want rfl rfl ?_
             refine op_v (v_loadA ty3 rfl rfl) rfl ?_)
          | (refine op_skip rfl rfl (by simp [undef]) rfl ?_)
        first
          | (refine op_want rfl rfl ?_
             first | refine op_v (v_fieldB 0 Try.underlying57 rfl rfl fz3 rfl) rfl ?_ | refine op_v (v_fieldI 0 Try.underlying57 rfl rfl fz3 rfl (by assumption)) rfl ?_ | refine op_v (v_field Try.underlying57 rfl fz3 rfl rfl) rfl ?_)
          | (refine op_skip rfl rfl (by simp [undef]) rfl ?_)
        first
          | (refine op_want rfl rfl ?_
             refine op_v (v_loadA ty3 rfl rfl) rfl ?_)
          | (refine op_skip rfl rfl (by simp [undef]) rfl ?_)
        first
          | (refine op_want rfl rfl ?_
             first | refine op_v (v_cmptA rfl rfl rfl) rfl ?_ | refine op_v (v_cmpfA rfl rfl rfl) rfl ?_ | refine op_v (v_cmp rfl rfl rfl) rfl ?_)
          | (refine op_skip rfl rfl (by simp [undef]) rfl ?_)
        first
          | (refine op_want rfl rfl ?_
             refine op_v (v_move rfl) rfl ?_)
          | (refine op_skip rfl rfl (by simp [undef]) rfl ?_)
        first
          | (refine op_want rfl rfl ?_
             first | refine op_v (v_fieldB 1 Try.underlying57 rfl rfl fz3 rfl) rfl ?_ | refine op_v (v_fieldI 1 Try.underlying57 rfl rfl fz3 rfl (by assumption)) rfl ?_ | refine op_v (v_field Try.underlying57 rfl fz3 rfl rfl) rfl ?_)
          | (refine op_skip rfl rfl (by simp [undef]) rfl ?_)
        first
          | (refine op_want rfl rfl ?_
             refine op_v (v_loadA ty3 rfl rfl) rfl ?_)
          | (refine op_skip rfl rfl (by simp [undef]) rfl ?_)
        first
          | (refine op_want rfl rfl ?_
             first | refine op_v (v_fieldB 1 Try.underlying57 rfl rfl fz3 rfl) rfl ?_ | refine op_v (v_fieldI 1 Try.underlying57 rfl rfl fz3 rfl (by assumption)) rfl ?_ | refine op_v (v_field Try.underlying57 rfl fz3 rfl rfl) rfl ?_)
          | (refine op_skip rfl rfl (by simp [undef]) rfl ?_)
        first
          | (refine op_want rfl rfl ?_
             refine op_v (v_loadA ty3 rfl rfl) rfl ?_)
          | (refine op_skip rfl rfl (by simp [undef]) rfl ?_)
        first
          | (refine op_want rfl rfl ?_
             first | refine op_v (v_cmptA rfl rfl rfl) rfl ?_ | refine op_v (v_cmpfA rfl rfl rfl) rfl ?_ | refine op_v (v_cmp rfl rfl rfl) rfl ?_)
          | (refine op_skip rfl rfl (by simp [undef]) rfl ?_)
        first
          | (refine op_want rfl rfl ?_
             first | refine op_v (v_pickt rfl rfl) rfl ?_ | refine op_v (v_pickf rfl rfl) rfl ?_ | refine op_v (v_pickb rfl rfl rfl) rfl ?_)
          | (refine op_skip rfl rfl (by simp [undef]) rfl ?_)
        first | refine op_v (v_pickt rfl rfl) rfl ?_ | refine op_v (v_pickf rfl rfl) rfl ?_ | refine op_v (v_pickb rfl rfl rfl) rfl ?_
        refine ops_nil ?_
        refine post_next ?_
        refine code_cond_t rfl ?_
        refine code_region ?_
        refine op_v (v_loadA ty57 rfl rfl) rfl ?_
        refine o_store ty57 rfl rfl rfl rfl rfl (by repeat (first | exact Swap.here | apply Swap.there)) rfl ?_
        refine ops_nil ?_
        refine post_out ?_
        refine post_next ?_
        refine code_region ?_
        refine op_v (v_move rfl) rfl ?_
        first | refine op_v (v_addb rfl rfl rfl (by omega)) rfl ?_ | refine op_v (v_add rfl rfl) rfl ?_
        refine op_v (v_assign rfl) rfl ?_
        refine ops_nil ?_
        refine PostJ.view (View.drop Del.here) ?_
        refine post_again (xs.length - (k + 1)) [(0, .pointer (some ⟨rb, 0, none⟩)), (2, .pointer (some ⟨b2, 0, none⟩)), (4, .pointer (some ⟨b4, 0, none⟩)), (5, .int .i64 (k + 1 : Nat))] (by omega) ⟨k + 1, gt xs k, rfl, hlt, rfl, rfl, rfl, fun h => by omega, fun _ => ⟨hxm, fun j hj => ?_⟩⟩ ⟨rfl, rfl, rfl, rfl, trivial⟩
        by_cases e : j = k
        · rw [e]; exact leI_refl _
        · exact leI_trans (.inl h30) ((hb1 (by omega)).2 j (by omega))
      · first
          | (refine op_want rfl rfl ?_
             first | refine op_v (v_cmptA rfl rfl rfl) rfl ?_ | refine op_v (v_cmpfA rfl rfl rfl) rfl ?_ | refine op_v (v_cmp rfl rfl rfl) rfl ?_)
          | (refine op_skip rfl rfl (by simp [undef]) rfl ?_)
        first | refine op_v (v_pickt rfl rfl) rfl ?_ | refine op_v (v_pickf rfl rfl) rfl ?_ | refine op_v (v_pickb rfl rfl rfl) rfl ?_
        refine op_v (v_move rfl) rfl ?_
        first
          | (refine op_want rfl rfl ?_
             first | refine op_v (v_fieldB 0 Try.underlying57 rfl rfl fz3 rfl) rfl ?_ | refine op_v (v_fieldI 0 Try.underlying57 rfl rfl fz3 rfl (by assumption)) rfl ?_ | refine op_v (v_field Try.underlying57 rfl fz3 rfl rfl) rfl ?_)
          | (refine op_skip rfl rfl (by simp [undef]) rfl ?_)
        first
          | (refine op_want rfl rfl ?_
             refine op_v (v_loadA ty3 rfl rfl) rfl ?_)
          | (refine op_skip rfl rfl (by simp [undef]) rfl ?_)
        first
          | (refine op_want rfl rfl ?_
             first | refine op_v (v_fieldB 0 Try.underlying57 rfl rfl fz3 rfl) rfl ?_ | refine op_v (v_fieldI 0 Try.underlying57 rfl rfl fz3 rfl (by assumption)) rfl ?_ | refine op_v (v_field Try.underlying57 rfl fz3 rfl rfl) rfl ?_)
          | (refine op_skip rfl rfl (by simp [undef]) rfl ?_)
        first
          | (refine op_want rfl rfl ?_
             refine op_v (v_loadA ty3 rfl rfl) rfl ?_)
          | (refine op_skip rfl rfl (by simp [undef]) rfl ?_)
        by_cases h37 : (gt xs k).1 = best.1
        · first
            | (refine op_want rfl rfl ?_
               first | refine op_v (v_cmptA rfl rfl rfl) rfl ?_ | refine op_v (v_cmpfA rfl rfl rfl) rfl ?_ | refine op_v (v_cmp rfl rfl rfl) rfl ?_)
            | (refine op_skip rfl rfl (by simp [undef]) rfl ?_)
          first
            | (refine op_want rfl rfl ?_
               refine op_v (v_move rfl) rfl ?_)
            | (refine op_skip rfl rfl (by simp [undef]) rfl ?_)
          first
            | (refine op_want rfl rfl ?_
               first | refine op_v (v_fieldB 1 Try.underlying57 rfl rfl fz3 rfl) rfl ?_ | refine op_v (v_fieldI 1 Try.underlying57 rfl rfl fz3 rfl (by assumption)) rfl ?_ | refine op_v (v_field Try.underlying57 rfl fz3 rfl rfl) rfl ?_)
            | (refine op_skip rfl rfl (by simp [undef]) rfl ?_)
          first
            | (refine op_want rfl rfl ?_
               refine op_v (v_loadA ty3 rfl rfl) rfl ?_)
            | (refine op_skip rfl rfl (by simp [undef]) rfl ?_)
          first
            | (refine op_want rfl rfl ?_
               first | refine op_v (v_fieldB 1 Try.underlying57 rfl rfl fz3 rfl) rfl ?_ | refine op_v (v_fieldI 1 Try.underlying57 rfl rfl fz3 rfl (by assumption)) rfl ?_ | refine op_v (v_field Try.underlying57 rfl fz3 rfl rfl) rfl ?_)
            | (refine op_skip rfl rfl (by simp [undef]) rfl ?_)
          first
            | (refine op_want rfl rfl ?_
               refine op_v (v_loadA ty3 rfl rfl) rfl ?_)
            | (refine op_skip rfl rfl (by simp [undef]) rfl ?_)
          by_cases h43 : (gt xs k).2 < best.2
          · first
              | (refine op_want rfl rfl ?_
                 first | refine op_v (v_cmptA rfl rfl rfl) rfl ?_ | refine op_v (v_cmpfA rfl rfl rfl) rfl ?_ | refine op_v (v_cmp rfl rfl rfl) rfl ?_)
              | (refine op_skip rfl rfl (by simp [undef]) rfl ?_)
            first
              | (refine op_want rfl rfl ?_
                 first | refine op_v (v_pickt rfl rfl) rfl ?_ | refine op_v (v_pickf rfl rfl) rfl ?_ | refine op_v (v_pickb rfl rfl rfl) rfl ?_)
              | (refine op_skip rfl rfl (by simp [undef]) rfl ?_)
            first | refine op_v (v_pickt rfl rfl) rfl ?_ | refine op_v (v_pickf rfl rfl) rfl ?_ | refine op_v (v_pickb rfl rfl rfl) rfl ?_
            refine ops_nil ?_
            refine post_next ?_
            refine code_cond_t rfl ?_
            refine code_region ?_
            refine op_v (v_loadA ty57 rfl rfl) rfl ?_
            refine o_store ty57 rfl rfl rfl rfl rfl (by repeat (first | exact Swap.here | apply Swap.there)) rfl ?_
            refine ops_nil ?_
            refine post_out ?_
            refine post_next ?_
            refine code_region ?_
            refine op_v (v_move rfl) rfl ?_
            first | refine op_v (v_addb rfl rfl rfl (by omega)) rfl ?_ | refine op_v (v_add rfl rfl) rfl ?_
            refine op_v (v_assign rfl) rfl ?_
            refine ops_nil ?_
            refine PostJ.view (View.drop Del.here) ?_
            refine post_again (xs.length - (k + 1)) [(0, .pointer (some ⟨rb, 0, none⟩)), (2, .pointer (some ⟨b2, 0, none⟩)), (4, .pointer (some ⟨b4, 0, none⟩)), (5, .int .i64 (k + 1 : Nat))] (by omega) ⟨k + 1, gt xs k, rfl, hlt, rfl, rfl, rfl, fun h => by omega, fun _ => ⟨hxm, fun j hj => ?_⟩⟩ ⟨rfl, rfl, rfl, rfl, trivial⟩
            by_cases e : j = k
            · rw [e]; exact leI_refl _
            · exact leI_trans (.inr ⟨h37, by omega⟩) ((hb1 (by omega)).2 j (by omega))
          · first
              | (refine op_want rfl rfl ?_
                 first | refine op_v (v_cmptA rfl rfl rfl) rfl ?_ | refine op_v (v_cmpfA rfl rfl rfl) rfl ?_ | refine op_v (v_cmp rfl rfl rfl) rfl ?_)
              | (refine op_skip rfl rfl (by simp [undef]) rfl ?_)
            first
              | (refine op_want rfl rfl ?_
                 first | refine op_v (v_pickt rfl rfl) rfl ?_ | refine op_v (v_pickf rfl rfl) rfl ?_ | refine op_v (v_pickb rfl rfl rfl) rfl ?_)
              | (refine op_skip rfl rfl (by simp [undef]) rfl ?_)
            first | refine op_v (v_pickt rfl rfl) rfl ?_ | refine op_v (v_pickf rfl rfl) rfl ?_ | refine op_v (v_pickb rfl rfl rfl) rfl ?_
            refine ops_nil ?_
            refine post_next ?_
            refine code_cond_f rfl ?_
            refine code_skip ?_
            refine post_out ?_
            refine post_next ?_
            refine code_region ?_
            refine op_v (v_move rfl) rfl ?_
            first | refine op_v (v_addb rfl rfl rfl (by omega)) rfl ?_ | refine op_v (v_add rfl rfl) rfl ?_
            refine op_v (v_assign rfl) rfl ?_
            refine ops_nil ?_
            refine PostJ.view (View.drop Del.here) ?_
            refine post_again (xs.length - (k + 1)) [(0, .pointer (some ⟨rb, 0, none⟩)), (2, .pointer (some ⟨b2, 0, none⟩)), (4, .pointer (some ⟨b4, 0, none⟩)), (5, .int .i64 (k + 1 : Nat))] (by omega) ⟨k + 1, best, rfl, hlt, rfl, rfl, rfl, fun h => by omega, fun _ => ⟨(hb1 (by omega)).1, fun j hj => ?_⟩⟩ ⟨rfl, rfl, rfl, rfl, trivial⟩
            by_cases e : j = k
            · rw [e]; exact .inr ⟨h37.symm, by omega⟩
            · exact (hb1 (by omega)).2 j (by omega)
        · first
            | (refine op_want rfl rfl ?_
               first | refine op_v (v_cmptA rfl rfl rfl) rfl ?_ | refine op_v (v_cmpfA rfl rfl rfl) rfl ?_ | refine op_v (v_cmp rfl rfl rfl) rfl ?_)
            | (refine op_skip rfl rfl (by simp [undef]) rfl ?_)
          first
            | (refine op_want rfl rfl ?_
               refine op_v (v_move rfl) rfl ?_)
            | (refine op_skip rfl rfl (by simp [undef]) rfl ?_)
          first
            | (refine op_want rfl rfl ?_
               first | refine op_v (v_fieldB 1 Try.underlying57 rfl rfl fz3 rfl) rfl ?_ | refine op_v (v_fieldI 1 Try.underlying57 rfl rfl fz3 rfl (by assumption)) rfl ?_ | refine op_v (v_field Try.underlying57 rfl fz3 rfl rfl) rfl ?_)
            | (refine op_skip rfl rfl (by simp [undef]) rfl ?_)
          first
            | (refine op_want rfl rfl ?_
               refine op_v (v_loadA ty3 rfl rfl) rfl ?_)
            | (refine op_skip rfl rfl (by simp [undef]) rfl ?_)
          first
            | (refine op_want rfl rfl ?_
               first | refine op_v (v_fieldB 1 Try.underlying57 rfl rfl fz3 rfl) rfl ?_ | refine op_v (v_fieldI 1 Try.underlying57 rfl rfl fz3 rfl (by assumption)) rfl ?_ | refine op_v (v_field Try.underlying57 rfl fz3 rfl rfl) rfl ?_)
            | (refine op_skip rfl rfl (by simp [undef]) rfl ?_)
          first
            | (refine op_want rfl rfl ?_
               refine op_v (v_loadA ty3 rfl rfl) rfl ?_)
            | (refine op_skip rfl rfl (by simp [undef]) rfl ?_)
          first
            | (refine op_want rfl rfl ?_
               first | refine op_v (v_cmptA rfl rfl rfl) rfl ?_ | refine op_v (v_cmpfA rfl rfl rfl) rfl ?_ | refine op_v (v_cmp rfl rfl rfl) rfl ?_)
            | (refine op_skip rfl rfl (by simp [undef]) rfl ?_)
          first
            | (refine op_want rfl rfl ?_
               first | refine op_v (v_pickt rfl rfl) rfl ?_ | refine op_v (v_pickf rfl rfl) rfl ?_ | refine op_v (v_pickb rfl rfl rfl) rfl ?_)
            | (refine op_skip rfl rfl (by simp [undef]) rfl ?_)
          first | refine op_v (v_pickt rfl rfl) rfl ?_ | refine op_v (v_pickf rfl rfl) rfl ?_ | refine op_v (v_pickb rfl rfl rfl) rfl ?_
          refine ops_nil ?_
          refine post_next ?_
          refine code_cond_f rfl ?_
          refine code_skip ?_
          refine post_out ?_
          refine post_next ?_
          refine code_region ?_
          refine op_v (v_move rfl) rfl ?_
          first | refine op_v (v_addb rfl rfl rfl (by omega)) rfl ?_ | refine op_v (v_add rfl rfl) rfl ?_
          refine op_v (v_assign rfl) rfl ?_
          refine ops_nil ?_
          refine PostJ.view (View.drop Del.here) ?_
          refine post_again (xs.length - (k + 1)) [(0, .pointer (some ⟨rb, 0, none⟩)), (2, .pointer (some ⟨b2, 0, none⟩)), (4, .pointer (some ⟨b4, 0, none⟩)), (5, .int .i64 (k + 1 : Nat))] (by omega) ⟨k + 1, best, rfl, hlt, rfl, rfl, rfl, fun h => by omega, fun _ => ⟨(hb1 (by omega)).1, fun j hj => ?_⟩⟩ ⟨rfl, rfl, rfl, rfl, trivial⟩
          by_cases e : j = k
          · rw [e]; exact .inl (by omega)
          · exact (hb1 (by omega)).2 j (by omega)
  · have hge : k = xs.length := by simp at hc0; omega
    refine code_exit ?_
    refine post_exit_then ?_
    refine post_exit_then ?_
    refine post_exit ?_
    refine post_next ?_
    refine code_seq ?_
    refine code_draw (.fl 0 (.fl 1 (.fl 2 (.fl 3 (.fl 4 (.fl 5 (.fl 6 (.ef 7 (.ef 8 .done))))))))) (fun _ => [.box b4 57 [.int .i64 best.1, .int .i64 best.2], .box rb tt (.slice A xs.length c :: rest)]) mixed (by kernel_rfl) (by kernel_rfl) (fun _ => (List.Sublist.cons_cons _ (List.Sublist.cons _ (List.Sublist.cons_cons _ (List.nil_sublist _))))) ?_
    refine e_fl rfl rfl (fun hs_ => PF.mk rfl (v_loadA ty57 rfl rfl) hs_) ?_
    refine e_fl rfl rfl (fun hs_ => PF.mk rfl (v_move rfl) hs_) ?_
    refine e_fl rfl rfl (fun hs_ => PF.mk rfl (v_nilCheck rfl) hs_) ?_
    first | refine e_fl rfl rfl (fun hs_ => PF.mk rfl (v_fieldB 0 Try.underlying53 rfl rfl fz51 rfl) hs_) ?_ | refine e_fl rfl rfl (fun hs_ => PF.mk rfl (v_fieldI 0 Try.underlying53 rfl rfl fz51 rfl (by assumption)) hs_) ?_ | refine e_fl rfl rfl (fun hs_ => PF.mk rfl (v_field Try.underlying53 rfl fz51 rfl rfl) hs_) ?_
    refine e_fl rfl rfl (fun hs_ => PF.mk rfl (v_loadA ty51 rfl rfl) hs_) ?_
    refine e_fl rfl rfl (fun hs_ => PF.mk rfl (v_len Try.underlying51 rfl) hs_) ?_
    refine e_fl rfl rfl (fun hs_ => PF.mk rfl (v_cmp (z := decide (0 < xs.length)) rfl rfl (by simp [cmpI])) hs_) ?_
    refine e_eff rfl (by intro cs b hc; cases hc) (by intro c hc; cases hc) ?_
    refine o_store ty57 rfl rfl rfl rfl rfl (by repeat (first | exact Swap.here | apply Swap.there)) rfl ?_
    refine ops_nil ?_
    refine e_next_ side_allA ?_
    refine e_eff rfl (by intro cs b hc; cases hc) (by intro c hc; cases hc) ?_
    refine op_v (v_assign rfl) rfl ?_
    refine ops_nil ?_
    refine e_next rfl (side_nil (by kernel_rfl)) ?_
    refine e_done ?_
    refine post_next ?_
    refine code_ret ?_
    refine post_ret (rs := [.cell 2 57, .tmp 3]) rfl (List.Perm.refl _) (.cons (.cell rfl ty57 (by repeat (first | exact Has.here | apply Has.there)) rfl) (.cons (.tmp rfl) .nil)) (List.Sublist.cons _ (List.Sublist.cons _ (List.Sublist.refl _))) ?_
    exact ⟨best, rfl, ⟨fun h => hb0 (by omega), fun h => ⟨(hb1 (by omega)).1, fun z hz => by obtain ⟨j, hj, rfl⟩ := List.getElem_of_mem hz; rw [← gt_at hj]; exact (hb1 (by omega)).2 j (by omega)⟩⟩, rfl⟩
end Go.Proofs.Ythbcdffldcdfoaa
/- Walks: the document's queue. -/
set_option linter.unusedVariables false
set_option linter.unusedSimpArgs false
set_option linter.unnecessarySimpa false
/- short -/
namespace Go.Proofs.Ythbcdffldcdfoaa
open Go Lg

theorem PutH.both {xs ys xs' ys' : List It} {x : It} {e e' : Int} (h : PutH xs x e xs') (k : PutH ys x e' ys') (hp : xs.Perm ys) : e = e' ∧ xs'.Perm ys' := by
  have hl := hp.length_eq
  have hm := (hp.map (fun x : It => x.2)).mem_iff (a := x.2)
  rcases h with ⟨h1, rfl, rfl⟩ | ⟨h1, h2, rfl, rfl⟩ | ⟨h1, h2, rfl, h3⟩ <;> rcases k with ⟨k1, rfl, rfl⟩ | ⟨k1, k2, rfl, rfl⟩ | ⟨k1, k2, rfl, k3⟩
  · exact ⟨rfl, hp⟩
  · exact absurd (hm.1 h1) k1
  · exact absurd (hm.1 h1) k1
  · exact absurd (hm.2 k1) h1
  · exact ⟨rfl, hp⟩
  · omega
  · exact absurd (hm.2 k1) h1
  · omega
  · exact ⟨rfl, h3.trans ((hp.append_right _).trans k3.symm)⟩
theorem nodup_inj {xs : List It} (h : (xs.map (·.2)).Nodup) {x y : It} (hx : x ∈ xs) (hy : y ∈ xs) (e : x.2 = y.2) : x = y := by
  obtain ⟨i, hi, rfl⟩ := List.getElem_of_mem hx
  obtain ⟨j, hj, rfl⟩ := List.getElem_of_mem hy
  have : i = j := (List.getElem_inj (xs := xs.map (·.2)) (h₀ := by simpa using hi) (h₁ := by simpa using hj) h).1 (by simpa using e)
  subst this; rfl
theorem DropH.both {xs ys xs' ys' : List It} {id : Int} {b b' : Bool} (h : DropH xs id b xs') (k : DropH ys id b' ys') (hp : xs.Perm ys) (hn : (xs.map (·.2)).Nodup) : b = b' ∧ xs'.Perm ys' := by
  have hm := (hp.map (fun x : It => x.2)).mem_iff (a := id)
  rcases h with ⟨h1, rfl, rfl⟩ | ⟨x, hx, rfl, h1⟩ <;> rcases k with ⟨k1, rfl, rfl⟩ | ⟨y, hy, rfl, k1⟩
  · exact ⟨rfl, hp⟩
  · exact absurd (hm.2 (hy ▸ List.mem_map_of_mem (f := fun x : It => x.2) (k1.mem_iff.2 (List.mem_cons_self ..)))) h1
  · exact absurd (hm.1 (hx ▸ List.mem_map_of_mem (f := fun x : It => x.2) (h1.mem_iff.2 (List.mem_cons_self ..)))) k1
  · have e : x = y := nodup_inj hn (h1.mem_iff.2 (List.mem_cons_self ..)) (hp.mem_iff.2 (k1.mem_iff.2 (List.mem_cons_self ..))) (hx.trans hy.symm)
    subst e
    exact ⟨rfl, (h1.symm.trans (hp.trans k1)).cons_inv⟩
theorem NextQ.both {a w told : Nat} {xs ys : List It} {x y : It} (h : NextQ a w told xs x) (k : NextQ a w told ys y) (hp : xs.Perm ys) (hn : (xs.map (·.2)).Nodup) (hx : x ∈ xs) (hy : y ∈ ys) : x = y := by
  have hyx := hp.mem_iff.2 hy
  have hxy := hp.mem_iff.1 hx
  unfold NextQ at h k
  by_cases q : told % (a + w) < a
  · rw [if_pos q] at h k
    exact nodup_inj hn hx hyx (by have := h _ hyx; have := k _ hxy; omega)
  · rw [if_neg q] at h k
    exact leI_antisymm (h _ hyx) (k _ hxy)
theorem RRatio_does {I : Imm} {a w : Int} (ha : InR a) (hw : InR w) :
    Does Try.prog 33 [.int .i64 a, .int .i64 w] I [] (fun v _ δ' => ((a < 0 ∨ w < 0 ∨ 16 < a ∨ 16 < w ∨ a + w = 0) ∧ v = .tuple #[.pointer none, .int .i64 1] ∧ δ' = []) ∨ (¬ (a < 0 ∨ w < 0 ∨ 16 < a ∨ 16 < w ∨ a + w = 0) ∧ ∃ rb, v = .tuple #[.pointer (some ⟨rb, 0, none⟩), .int .i64 0] ∧ δ' = RHE rb 70 [.int .i64 a, .int .i64 w, .int .i64 (0 : Nat)] none 0 [])) := by
  refine Does.intro Try.func33 rfl Try.ntmps33 rfl fun w0 => ?_
  refine code_seq ?_
  refine code_region ?_
  refine op_v (v_assign rfl) rfl ?_
  refine op_v (v_assign rfl) rfl ?_
  refine ops_nil ?_
  refine post_next ?_
  refine code_seq ?_
  refine code_seq ?_
  refine code_region ?_
  refine op_v (v_move rfl) rfl ?_
  by_cases h7 : a < 0
  · first | refine op_v (v_cmptA rfl rfl rfl) rfl ?_ | refine op_v (v_cmpfA rfl rfl rfl) rfl ?_ | refine op_v (v_cmp rfl rfl rfl) rfl ?_
    refine op_v (v_move rfl) rfl ?_
    first
      | (refine op_want rfl rfl ?_
         refine op_v (v_move rfl) rfl ?_)
      | (refine op_skip rfl rfl (by simp [undef]) rfl ?_)
    first
      | (refine op_want rfl rfl ?_
         first | refine op_v (v_cmptA rfl rfl rfl) rfl ?_ | refine op_v (v_cmpfA rfl rfl rfl) rfl ?_ | refine op_v (v_cmp rfl rfl rfl) rfl ?_)
      | (refine op_skip rfl rfl (by simp [undef]) rfl ?_)
    first | refine op_v (v_pickt rfl rfl) rfl ?_ | refine op_v (v_pickf rfl rfl) rfl ?_ | refine op_v (v_pickb rfl rfl rfl) rfl ?_
    refine op_v (v_move rfl) rfl ?_
    first
      | (refine op_want rfl rfl ?_
         refine op_v (v_move rfl) rfl ?_)
      | (refine op_skip rfl rfl (by simp [undef]) rfl ?_)
    first
      | (refine op_want rfl rfl ?_
         first | refine op_v (v_cmptA rfl rfl rfl) rfl ?_ | refine op_v (v_cmpfA rfl rfl rfl) rfl ?_ | refine op_v (v_cmp rfl rfl rfl) rfl ?_)
      | (refine op_skip rfl rfl (by simp [undef]) rfl ?_)
    first | refine op_v (v_pickt rfl rfl) rfl ?_ | refine op_v (v_pickf rfl rfl) rfl ?_ | refine op_v (v_pickb rfl rfl rfl) rfl ?_
    refine op_v (v_move rfl) rfl ?_
    first
      | (refine op_want rfl rfl ?_
         refine op_v (v_move rfl) rfl ?_)
      | (refine op_skip rfl rfl (by simp [undef]) rfl ?_)
    first
      | (refine op_want rfl rfl ?_
         first | refine op_v (v_cmptA rfl rfl rfl) rfl ?_ | refine op_v (v_cmpfA rfl rfl rfl) rfl ?_ | refine op_v (v_cmp rfl rfl rfl) rfl ?_)
      | (refine op_skip rfl rfl (by simp [undef]) rfl ?_)
    first | refine op_v (v_pickt rfl rfl) rfl ?_ | refine op_v (v_pickf rfl rfl) rfl ?_ | refine op_v (v_pickb rfl rfl rfl) rfl ?_
    refine op_v (v_move rfl) rfl ?_
    first
      | (refine op_want rfl rfl ?_
         refine op_v (v_move rfl) rfl ?_)
      | (refine op_skip rfl rfl (by simp [undef]) rfl ?_)
    first
      | (refine op_want rfl rfl ?_
         refine op_v (v_move rfl) rfl ?_)
      | (refine op_skip rfl rfl (by simp [undef]) rfl ?_)
    first
      | (refine op_want rfl rfl ?_
         refine op_v (v_addb (c := a + w) rfl rfl rfl ⟨by omega, by omega⟩) rfl ?_)
      | (refine op_skip rfl rfl (by simp [undef]) rfl ?_)
    first
      | (refine op_want rfl rfl ?_
         first | refine op_v (v_cmptA rfl rfl rfl) rfl ?_ | refine op_v (v_cmpfA rfl rfl rfl) rfl ?_ | refine op_v (v_cmp rfl rfl rfl) rfl ?_)
      | (refine op_skip rfl rfl (by simp [undef]) rfl ?_)
    first | refine op_v (v_pickt rfl rfl) rfl ?_ | refine op_v (v_pickf rfl rfl) rfl ?_ | refine op_v (v_pickb rfl rfl rfl) rfl ?_
    refine ops_nil ?_
    refine post_next ?_
    refine code_cond_t rfl ?_
    refine code_seq ?_
    refine code_region ?_
    refine op_v (v_assign rfl) rfl ?_
    refine op_v (v_assign rfl) rfl ?_
    refine ops_nil ?_
    refine post_next ?_
    refine code_ret ?_
    refine post_ret_then ?_
    refine post_ret (rs := [.tmp 4, .tmp 5]) rfl (List.Perm.refl _) (.cons (.tmp rfl) (.cons (.tmp rfl) .nil)) (List.nil_sublist _) ?_
    exact .inl ⟨by omega, rfl, rfl⟩
  · first | refine op_v (v_cmptA rfl rfl rfl) rfl ?_ | refine op_v (v_cmpfA rfl rfl rfl) rfl ?_ | refine op_v (v_cmp rfl rfl rfl) rfl ?_
    refine op_v (v_move rfl) rfl ?_
    first
      | (refine op_want rfl rfl ?_
         refine op_v (v_move rfl) rfl ?_)
      | (refine op_skip rfl rfl (by simp [undef]) rfl ?_)
    by_cases h10 : w < 0
    · first
        | (refine op_want rfl rfl ?_
           first | refine op_v (v_cmptA rfl rfl rfl) rfl ?_ | refine op_v (v_cmpfA rfl rfl rfl) rfl ?_ | refine op_v (v_cmp rfl rfl rfl) rfl ?_)
        | (refine op_skip rfl rfl (by simp [undef]) rfl ?_)
      first | refine op_v (v_pickt rfl rfl) rfl ?_ | refine op_v (v_pickf rfl rfl) rfl ?_ | refine op_v (v_pickb rfl rfl rfl) rfl ?_
      refine op_v (v_move rfl) rfl ?_
      first
        | (refine op_want rfl rfl ?_
           refine op_v (v_move rfl) rfl ?_)
        | (refine op_skip rfl rfl (by simp [undef]) rfl ?_)
      first
        | (refine op_want rfl rfl ?_
           first | refine op_v (v_cmptA rfl rfl rfl) rfl ?_ | refine op_v (v_cmpfA rfl rfl rfl) rfl ?_ | refine op_v (v_cmp rfl rfl rfl) rfl ?_)
        | (refine op_skip rfl rfl (by simp [undef]) rfl ?_)
      first | refine op_v (v_pickt rfl rfl) rfl ?_ | refine op_v (v_pickf rfl rfl) rfl ?_ | refine op_v (v_pickb rfl rfl rfl) rfl ?_
      refine op_v (v_move rfl) rfl ?_
      first
        | (refine op_want rfl rfl ?_
           refine op_v (v_move rfl) rfl ?_)
        | (refine op_skip rfl rfl (by simp [undef]) rfl ?_)
      first
        | (refine op_want rfl rfl ?_
           first | refine op_v (v_cmptA rfl rfl rfl) rfl ?_ | refine op_v (v_cmpfA rfl rfl rfl) rfl ?_ | refine op_v (v_cmp rfl rfl rfl) rfl ?_)
        | (refine op_skip rfl rfl (by simp [undef]) rfl ?_)
      first | refine op_v (v_pickt rfl rfl) rfl ?_ | refine op_v (v_pickf rfl rfl) rfl ?_ | refine op_v (v_pickb rfl rfl rfl) rfl ?_
      refine op_v (v_move rfl) rfl ?_
      first
        | (refine op_want rfl rfl ?_
           refine op_v (v_move rfl) rfl ?_)
        | (refine op_skip rfl rfl (by simp [undef]) rfl ?_)
      first
        | (refine op_want rfl rfl ?_
           refine op_v (v_move rfl) rfl ?_)
        | (refine op_skip rfl rfl (by simp [undef]) rfl ?_)
      first
        | (refine op_want rfl rfl ?_
           refine op_v (v_addb (c := a + w) rfl rfl rfl ⟨by omega, by omega⟩) rfl ?_)
        | (refine op_skip rfl rfl (by simp [undef]) rfl ?_)
      first
        | (refine op_want rfl rfl ?_
           first | refine op_v (v_cmptA rfl rfl rfl) rfl ?_ | refine op_v (v_cmpfA rfl rfl rfl) rfl ?_ | refine op_v (v_cmp rfl rfl rfl) rfl ?_)
        | (refine op_skip rfl rfl (by simp [undef]) rfl ?_)
      first | refine op_v (v_pickt rfl rfl) rfl ?_ | refine op_v (v_pickf rfl rfl) rfl ?_ | refine op_v (v_pickb rfl rfl rfl) rfl ?_
      refine ops_nil ?_
      refine post_next ?_
      refine code_cond_t rfl ?_
      refine code_seq ?_
      refine code_region ?_
      refine op_v (v_assign rfl) rfl ?_
      refine op_v (v_assign rfl) rfl ?_
      refine ops_nil ?_
      refine post_next ?_
      refine code_ret ?_
      refine post_ret_then ?_
      refine post_ret (rs := [.tmp 4, .tmp 5]) rfl (List.Perm.refl _) (.cons (.tmp rfl) (.cons (.tmp rfl) .nil)) (List.nil_sublist _) ?_
      exact .inl ⟨by omega, rfl, rfl⟩
    · first
        | (refine op_want rfl rfl ?_
           first | refine op_v (v_cmptA rfl rfl rfl) rfl ?_ | refine op_v (v_cmpfA rfl rfl rfl) rfl ?_ | refine op_v (v_cmp rfl rfl rfl) rfl ?_)
        | (refine op_skip rfl rfl (by simp [undef]) rfl ?_)
      first | refine op_v (v_pickt rfl rfl) rfl ?_ | refine op_v (v_pickf rfl rfl) rfl ?_ | refine op_v (v_pickb rfl rfl rfl) rfl ?_
      refine op_v (v_move rfl) rfl ?_
      first
        | (refine op_want rfl rfl ?_
           refine op_v (v_move rfl) rfl ?_)
        | (refine op_skip rfl rfl (by simp [undef]) rfl ?_)
      by_cases h14 : 16 < a
      · first
          | (refine op_want rfl rfl ?_
             first | refine op_v (v_cmptA rfl rfl rfl) rfl ?_ | refine op_v (v_cmpfA rfl rfl rfl) rfl ?_ | refine op_v (v_cmp rfl rfl rfl) rfl ?_)
          | (refine op_skip rfl rfl (by simp [undef]) rfl ?_)
        first | refine op_v (v_pickt rfl rfl) rfl ?_ | refine op_v (v_pickf rfl rfl) rfl ?_ | refine op_v (v_pickb rfl rfl rfl) rfl ?_
        refine op_v (v_move rfl) rfl ?_
        first
          | (refine op_want rfl rfl ?_
             refine op_v (v_move rfl) rfl ?_)
          | (refine op_skip rfl rfl (by simp [undef]) rfl ?_)
        first
          | (refine op_want rfl rfl ?_
             first | refine op_v (v_cmptA rfl rfl rfl) rfl ?_ | refine op_v (v_cmpfA rfl rfl rfl) rfl ?_ | refine op_v (v_cmp rfl rfl rfl) rfl ?_)
          | (refine op_skip rfl rfl (by simp [undef]) rfl ?_)
        first | refine op_v (v_pickt rfl rfl) rfl ?_ | refine op_v (v_pickf rfl rfl) rfl ?_ | refine op_v (v_pickb rfl rfl rfl) rfl ?_
        refine op_v (v_move rfl) rfl ?_
        first
          | (refine op_want rfl rfl ?_
             refine op_v (v_move rfl) rfl ?_)
          | (refine op_skip rfl rfl (by simp [undef]) rfl ?_)
        first
          | (refine op_want rfl rfl ?_
             refine op_v (v_move rfl) rfl ?_)
          | (refine op_skip rfl rfl (by simp [undef]) rfl ?_)
        first
          | (refine op_want rfl rfl ?_
             refine op_v (v_addb (c := a + w) rfl rfl rfl ⟨by omega, by omega⟩) rfl ?_)
          | (refine op_skip rfl rfl (by simp [undef]) rfl ?_)
        first
          | (refine op_want rfl rfl ?_
             first | refine op_v (v_cmptA rfl rfl rfl) rfl ?_ | refine op_v (v_cmpfA rfl rfl rfl) rfl ?_ | refine op_v (v_cmp rfl rfl rfl) rfl ?_)
          | (refine op_skip rfl rfl (by simp [undef]) rfl ?_)
        first | refine op_v (v_pickt rfl rfl) rfl ?_ | refine op_v (v_pickf rfl rfl) rfl ?_ | refine op_v (v_pickb rfl rfl rfl) rfl ?_
        refine ops_nil ?_
        refine post_next ?_
        refine code_cond_t rfl ?_
        refine code_seq ?_
        refine code_region ?_
        refine op_v (v_assign rfl) rfl ?_
        refine op_v (v_assign rfl) rfl ?_
        refine ops_nil ?_
        refine post_next ?_
        refine code_ret ?_
        refine post_ret_then ?_
        refine post_ret (rs := [.tmp 4, .tmp 5]) rfl (List.Perm.refl _) (.cons (.tmp rfl) (.cons (.tmp rfl) .nil)) (List.nil_sublist _) ?_
        exact .inl ⟨by omega, rfl, rfl⟩
      · first
          | (refine op_want rfl rfl ?_
             first | refine op_v (v_cmptA rfl rfl rfl) rfl ?_ | refine op_v (v_cmpfA rfl rfl rfl) rfl ?_ | refine op_v (v_cmp rfl rfl rfl) rfl ?_)
          | (refine op_skip rfl rfl (by simp [undef]) rfl ?_)
        first | refine op_v (v_pickt rfl rfl) rfl ?_ | refine op_v (v_pickf rfl rfl) rfl ?_ | refine op_v (v_pickb rfl rfl rfl) rfl ?_
        refine op_v (v_move rfl) rfl ?_
        first
          | (refine op_want rfl rfl ?_
             refine op_v (v_move rfl) rfl ?_)
          | (refine op_skip rfl rfl (by simp [undef]) rfl ?_)
        by_cases h18 : 16 < w
        · first
            | (refine op_want rfl rfl ?_
               first | refine op_v (v_cmptA rfl rfl rfl) rfl ?_ | refine op_v (v_cmpfA rfl rfl rfl) rfl ?_ | refine op_v (v_cmp rfl rfl rfl) rfl ?_)
            | (refine op_skip rfl rfl (by simp [undef]) rfl ?_)
          first | refine op_v (v_pickt rfl rfl) rfl ?_ | refine op_v (v_pickf rfl rfl) rfl ?_ | refine op_v (v_pickb rfl rfl rfl) rfl ?_
          refine op_v (v_move rfl) rfl ?_
          first
            | (refine op_want rfl rfl ?_
               refine op_v (v_move rfl) rfl ?_)
            | (refine op_skip rfl rfl (by simp [undef]) rfl ?_)
          first
            | (refine op_want rfl rfl ?_
               refine op_v (v_move rfl) rfl ?_)
            | (refine op_skip rfl rfl (by simp [undef]) rfl ?_)
          first
            | (refine op_want rfl rfl ?_
               refine op_v (v_addb (c := a + w) rfl rfl rfl ⟨by omega, by omega⟩) rfl ?_)
            | (refine op_skip rfl rfl (by simp [undef]) rfl ?_)
          first
            | (refine op_want rfl rfl ?_
               first | refine op_v (v_cmptA rfl rfl rfl) rfl ?_ | refine op_v (v_cmpfA rfl rfl rfl) rfl ?_ | refine op_v (v_cmp rfl rfl rfl) rfl ?_)
            | (refine op_skip rfl rfl (by simp [undef]) rfl ?_)
          first | refine op_v (v_pickt rfl rfl) rfl ?_ | refine op_v (v_pickf rfl rfl) rfl ?_ | refine op_v (v_pickb rfl rfl rfl) rfl ?_
          refine ops_nil ?_
          refine post_next ?_
          refine code_cond_t rfl ?_
          refine code_seq ?_
          refine code_region ?_
          refine op_v (v_assign rfl) rfl ?_
          refine op_v (v_assign rfl) rfl ?_
          refine ops_nil ?_
          refine post_next ?_
          refine code_ret ?_
          refine post_ret_then ?_
          refine post_ret (rs := [.tmp 4, .tmp 5]) rfl (List.Perm.refl _) (.cons (.tmp rfl) (.cons (.tmp rfl) .nil)) (List.nil_sublist _) ?_
          exact .inl ⟨by omega, rfl, rfl⟩
        · first
            | (refine op_want rfl rfl ?_
               first | refine op_v (v_cmptA rfl rfl rfl) rfl ?_ | refine op_v (v_cmpfA rfl rfl rfl) rfl ?_ | refine op_v (v_cmp rfl rfl rfl) rfl ?_)
            | (refine op_skip rfl rfl (by simp [undef]) rfl ?_)
          first | refine op_v (v_pickt rfl rfl) rfl ?_ | refine op_v (v_pickf rfl rfl) rfl ?_ | refine op_v (v_pickb rfl rfl rfl) rfl ?_
          refine op_v (v_move rfl) rfl ?_
          first
            | (refine op_want rfl rfl ?_
               refine op_v (v_move rfl) rfl ?_)
            | (refine op_skip rfl rfl (by simp [undef]) rfl ?_)
          first
            | (refine op_want rfl rfl ?_
               refine op_v (v_move rfl) rfl ?_)
            | (refine op_skip rfl rfl (by simp [undef]) rfl ?_)
          first
            | (refine op_want rfl rfl ?_
               refine op_v (v_addb (c := a + w) rfl rfl rfl ⟨by omega, by omega⟩) rfl ?_)
            | (refine op_skip rfl rfl (by simp [undef]) rfl ?_)
          by_cases h24 : a + w = 0
          · first
              | (refine op_want rfl rfl ?_
                 first | refine op_v (v_cmptA rfl rfl rfl) rfl ?_ | refine op_v (v_cmpfA rfl rfl rfl) rfl ?_ | refine op_v (v_cmp rfl rfl rfl) rfl ?_)
              | (refine op_skip rfl rfl (by simp [undef]) rfl ?_)
            first | refine op_v (v_pickt rfl rfl) rfl ?_ | refine op_v (v_pickf rfl rfl) rfl ?_ | refine op_v (v_pickb rfl rfl rfl) rfl ?_
            refine ops_nil ?_
            refine post_next ?_
            refine code_cond_t rfl ?_
            refine code_seq ?_
            refine code_region ?_
            refine op_v (v_assign rfl) rfl ?_
            refine op_v (v_assign rfl) rfl ?_
            refine ops_nil ?_
            refine post_next ?_
            refine code_ret ?_
            refine post_ret_then ?_
            refine post_ret (rs := [.tmp 4, .tmp 5]) rfl (List.Perm.refl _) (.cons (.tmp rfl) (.cons (.tmp rfl) .nil)) (List.nil_sublist _) ?_
            exact .inl ⟨by omega, rfl, rfl⟩
          · first
              | (refine op_want rfl rfl ?_
                 first | refine op_v (v_cmptA rfl rfl rfl) rfl ?_ | refine op_v (v_cmpfA rfl rfl rfl) rfl ?_ | refine op_v (v_cmp rfl rfl rfl) rfl ?_)
              | (refine op_skip rfl rfl (by simp [undef]) rfl ?_)
            first | refine op_v (v_pickt rfl rfl) rfl ?_ | refine op_v (v_pickf rfl rfl) rfl ?_ | refine op_v (v_pickb rfl rfl rfl) rfl ?_
            refine ops_nil ?_
            refine post_next ?_
            refine code_cond_f rfl ?_
            refine code_skip ?_
            refine post_next ?_
            refine code_seq ?_
            refine code_region ?_
            refine op_v (v_move rfl) rfl ?_
            refine op_v (v_move rfl) rfl ?_
            refine op_v (v_build bl70 rfl rfl) rfl ?_
            refine o_box rfl rfl rfl (fun b29 => ?_)
            refine op_v (v_assign rfl) rfl ?_
            refine op_v (v_assign rfl) rfl ?_
            refine ops_nil ?_
            refine post_next ?_
            refine code_ret ?_
            refine PostJ.view ((View.nilRow 57 2).trans (View.perm (List.Perm.swap _ _ _))) (post_ret (rs := [.tmp 4, .tmp 5]) rfl (List.Perm.refl _) (.cons (.tmp rfl) (.cons (.tmp rfl) .nil)) (List.Sublist.refl _) (.inr ⟨by omega, _, rfl, rfl⟩))
abbrev QR (rb a w told : Nat) (A : Option Addr) (c : Nat) (xs : List It) : List Ent := RHE rb 70 [.int .i64 a, .int .i64 w, .int .i64 told] A c xs
theorem RNext_does {I : Imm} {rb a w told c : Nat} {A : Option Addr} {xs : List It} (hl : xs.length ≤ 1000000) (hn : (xs.map (·.2)).Nodup) (ha : a ≤ 16) (hw : w ≤ 16) (haw : 0 < a + w) (ht : told ≤ 1000000) :
    Does Try.prog 36 [.pointer (some ⟨rb, 0, none⟩)] I (QR rb a w told A c xs) (fun v _ δ' => (xs = [] ∧ v = .tuple #[.int .i64 0, .bool false] ∧ δ' = QR rb a w told A c []) ∨ ∃ y zs A' c', xs.Perm (y :: zs) ∧ v = .tuple #[.int .i64 y.2, .bool true] ∧ NextQ a w told xs y ∧ δ' = QR rb a w (told + 1) A' c' zs) := by
  refine Does.intro Try.func36 rfl Try.ntmps36 rfl fun w0 => ?_
  refine code_seq ?_
  refine code_region ?_
  refine op_v (v_assign rfl) rfl ?_
  refine op_v (v_assign rfl) rfl ?_
  refine ops_nil ?_
  refine post_next ?_
  refine code_seq ?_
  refine code_seq ?_
  refine code_region ?_
  refine op_v (v_move rfl) rfl ?_
  refine op_v (v_nilCheck rfl) rfl ?_
  first | refine op_v (v_fieldB 0 Try.underlying70 rfl rfl fz53 rfl) rfl ?_ | refine op_v (v_fieldI 0 Try.underlying70 rfl rfl fz53 rfl (by assumption)) rfl ?_ | refine op_v (v_field Try.underlying70 rfl fz53 rfl rfl) rfl ?_
  first | refine op_v (v_fieldB 0 Try.underlying53 rfl rfl fz51 rfl) rfl ?_ | refine op_v (v_fieldI 0 Try.underlying53 rfl rfl fz51 rfl (by assumption)) rfl ?_ | refine op_v (v_field Try.underlying53 rfl fz51 rfl rfl) rfl ?_
  refine op_v (v_loadA ty51 rfl rfl) rfl ?_
  refine op_v (v_len Try.underlying51 rfl) rfl ?_
  by_cases h14 : xs.length = 0
  · first | refine op_v (v_cmptA rfl rfl rfl) rfl ?_ | refine op_v (v_cmpfA rfl rfl rfl) rfl ?_ | refine op_v (v_cmp rfl rfl rfl) rfl ?_
    refine ops_nil ?_
    refine post_next ?_
    refine code_cond_t rfl ?_
    refine code_seq ?_
    refine code_region ?_
    refine op_v (v_assign rfl) rfl ?_
    refine op_v (v_assign rfl) rfl ?_
    refine ops_nil ?_
    refine post_next ?_
    refine code_ret ?_
    refine post_ret_then ?_
    refine post_ret (rs := [.tmp 2, .tmp 3]) rfl (List.Perm.refl _) (.cons (.tmp rfl) (.cons (.tmp rfl) .nil)) (List.Sublist.refl _) ?_
    have hx : xs = [] := List.eq_nil_of_length_eq_zero h14
    subst hx
    exact .inl ⟨rfl, rfl, rfl⟩
  · first | refine op_v (v_cmptA rfl rfl rfl) rfl ?_ | refine op_v (v_cmpfA rfl rfl rfl) rfl ?_ | refine op_v (v_cmp rfl rfl rfl) rfl ?_
    refine ops_nil ?_
    refine post_next ?_
    refine code_cond_f rfl ?_
    refine code_skip ?_
    refine post_next ?_
    refine code_seq ?_
    refine code_region ?_
    refine op_v (v_move rfl) rfl ?_
    refine op_v (v_nilCheck rfl) rfl ?_
    first | refine op_v (v_fieldB 0 Try.underlying70 rfl rfl fz53 rfl) rfl ?_ | refine op_v (v_fieldI 0 Try.underlying70 rfl rfl fz53 rfl (by assumption)) rfl ?_ | refine op_v (v_field Try.underlying70 rfl fz53 rfl rfl) rfl ?_
    refine op_call pl29 rfl rfl ((RHMin_does hl)) Parts.all ?_
    rintro v19 I19 _ hI19 ⟨m, rfl, hm, rfl⟩
    rw [List.append_nil]
    obtain ⟨hmx, hmin⟩ := hm.2 (by omega)
    refine op_v (v_move rfl) rfl ?_
    refine op_v (v_extract rfl rfl) rfl ?_
    refine op_v (v_extract rfl rfl) rfl ?_
    refine o_alloc z57 rfl rfl (fun b4 => ?_)
    refine o_store ty57 rfl rfl rfl rfl rfl (by repeat (first | exact Swap.here | apply Swap.there)) rfl ?_
    refine op_v (v_assign rfl) rfl ?_
    refine ops_nil ?_
    refine post_next ?_
    refine code_seq ?_
    refine code_region ?_
    first | refine op_v (v_fieldB 1 Try.underlying57 rfl rfl fz3 rfl) rfl ?_ | refine op_v (v_fieldI 1 Try.underlying57 rfl rfl fz3 rfl (by assumption)) rfl ?_ | refine op_v (v_field Try.underlying57 rfl fz3 rfl rfl) rfl ?_
    refine op_v (v_loadA ty3 rfl rfl) rfl ?_
    refine op_v (v_assign rfl) rfl ?_
    refine ops_nil ?_
    refine post_next ?_
    refine code_seq_meet (fun σ' I' δ' => ∃ y : It, σ' = [(0, .pointer (some ⟨rb, 0, none⟩)), (6, .int .i64 y.2)] ∧ I19 = I' ∧ δ' = QR rb a w told A c xs ∧ y ∈ xs ∧ NextQ a w told xs y) ?_ ?_
    · refine code_seq ?_
      refine code_draw (.fl 0 (.fl 1 (.fl 2 (.fl 3 (.fl 4 (.fl 5 (.fl 6 (.fl 7 (.fl 8 (.fl 9 (.fl 10 (.fl 11 (.fl 12 (.fl 13 (.fl 14 (.fl 15 (.fl 16 (.fl 17 (.fl 18 .done))))))))))))))))))) (fun _ => QR rb a w told A c xs) mixed (by kernel_rfl) (by kernel_rfl) (fun _ => (List.Sublist.cons _ (List.Sublist.refl _))) ?_
      refine e_fl rfl rfl (fun hs_ => PF.mk rfl (v_move rfl) hs_) ?_
      refine e_fl rfl rfl (fun hs_ => PF.mk rfl (v_nilCheck rfl) hs_) ?_
      first | refine e_fl rfl rfl (fun hs_ => PF.mk rfl (v_fieldB 3 Try.underlying70 rfl rfl fz3 rfl) hs_) ?_ | refine e_fl rfl rfl (fun hs_ => PF.mk rfl (v_fieldI 3 Try.underlying70 rfl rfl fz3 rfl (by assumption)) hs_) ?_ | refine e_fl rfl rfl (fun hs_ => PF.mk rfl (v_field Try.underlying70 rfl fz3 rfl rfl) hs_) ?_
      refine e_fl rfl rfl (fun hs_ => PF.mk rfl (v_loadA ty3 rfl rfl) hs_) ?_
      refine e_fl rfl rfl (fun hs_ => PF.mk rfl (v_move rfl) hs_) ?_
      refine e_fl rfl rfl (fun hs_ => PF.mk rfl (v_nilCheck rfl) hs_) ?_
      first | refine e_fl rfl rfl (fun hs_ => PF.mk rfl (v_fieldB 1 Try.underlying70 rfl rfl fz3 rfl) hs_) ?_ | refine e_fl rfl rfl (fun hs_ => PF.mk rfl (v_fieldI 1 Try.underlying70 rfl rfl fz3 rfl (by assumption)) hs_) ?_ | refine e_fl rfl rfl (fun hs_ => PF.mk rfl (v_field Try.underlying70 rfl fz3 rfl rfl) hs_) ?_
      refine e_fl rfl rfl (fun hs_ => PF.mk rfl (v_loadA ty3 rfl rfl) hs_) ?_
      refine e_fl rfl rfl (fun hs_ => PF.mk rfl (v_move rfl) hs_) ?_
      refine e_fl rfl rfl (fun hs_ => PF.mk rfl (v_nilCheck rfl) hs_) ?_
      first | refine e_fl rfl rfl (fun hs_ => PF.mk rfl (v_fieldB 2 Try.underlying70 rfl rfl fz3 rfl) hs_) ?_ | refine e_fl rfl rfl (fun hs_ => PF.mk rfl (v_fieldI 2 Try.underlying70 rfl rfl fz3 rfl (by assumption)) hs_) ?_ | refine e_fl rfl rfl (fun hs_ => PF.mk rfl (v_field Try.underlying70 rfl fz3 rfl rfl) hs_) ?_
      refine e_fl rfl rfl (fun hs_ => PF.mk rfl (v_loadA ty3 rfl rfl) hs_) ?_
      refine e_fl rfl rfl (fun hs_ => PF.mk rfl (v_addb (c := ((a + w : Nat) : Int)) rfl rfl (by omega) (by omega)) hs_) ?_
      refine e_fl rfl rfl (fun hs_ => PF.mk rfl (v_remb (c := ((told % (a + w) : Nat) : Int)) rfl rfl (by omega) rfl) hs_) ?_
      refine e_fl rfl rfl (fun hs_ => PF.mk rfl (v_move rfl) hs_) ?_
      refine e_fl rfl rfl (fun hs_ => PF.mk rfl (v_nilCheck rfl) hs_) ?_
      first | refine e_fl rfl rfl (fun hs_ => PF.mk rfl (v_fieldB 1 Try.underlying70 rfl rfl fz3 rfl) hs_) ?_ | refine e_fl rfl rfl (fun hs_ => PF.mk rfl (v_fieldI 1 Try.underlying70 rfl rfl fz3 rfl (by assumption)) hs_) ?_ | refine e_fl rfl rfl (fun hs_ => PF.mk rfl (v_field Try.underlying70 rfl fz3 rfl rfl) hs_) ?_
      refine e_fl rfl rfl (fun hs_ => PF.mk rfl (v_loadA ty3 rfl rfl) hs_) ?_
      by_cases h42 : told % (a + w) < a
      · first | refine e_fl rfl rfl (fun hs_ => PF.mk rfl (v_cmptA rfl rfl rfl) hs_) ?_ | refine e_fl rfl rfl (fun hs_ => PF.mk rfl (v_cmpfA rfl rfl rfl) hs_) ?_ | refine e_fl rfl rfl (fun hs_ => PF.mk rfl (v_cmp rfl rfl rfl) hs_) ?_
        refine e_done ?_
        refine post_next ?_
        refine code_cond_t rfl ?_
        refine code_seq ?_
        refine code_region ?_
        refine op_v (v_assign rfl) rfl ?_
        refine ops_nil ?_
        refine post_next ?_
        refine code_block ?_
        refine code_loop (fun mm σ' I' δ' => ∃ (k : Nat) (y : It), mm = xs.length - k ∧ k ≤ xs.length ∧ σ' = [(0, .pointer (some ⟨rb, 0, none⟩)), (6, .int .i64 y.2), (7, .int .i64 k)] ∧ I19 = I' ∧ δ' = .box b4 57 [.int .i64 m.1, .int .i64 m.2] :: QR rb a w told A c xs ∧ y ∈ xs ∧ ∀ j, j < k → y.2 ≤ (gt xs j).2) xs.length [(0, .pointer (some ⟨rb, 0, none⟩)), (6, .int .i64 m.2), (7, .int .i64 (0 : Nat))] ⟨0, m, rfl, by omega, rfl, rfl, rfl, hmx, fun j h => by omega⟩ ⟨rfl, rfl, rfl, trivial⟩ ?_
        rintro mm _ _ _ ⟨k, y, rfl, hk, rfl, rfl, rfl, hyx, hyl⟩
        refine code_seq ?_
        refine code_seq ?_
        refine code_region ?_
        refine op_v (v_move rfl) rfl ?_
        refine op_v (v_move rfl) rfl ?_
        refine op_v (v_nilCheck rfl) rfl ?_
        first | refine op_v (v_fieldB 0 Try.underlying70 rfl rfl fz53 rfl) rfl ?_ | refine op_v (v_fieldI 0 Try.underlying70 rfl rfl fz53 rfl (by assumption)) rfl ?_ | refine op_v (v_field Try.underlying70 rfl fz53 rfl rfl) rfl ?_
        first | refine op_v (v_fieldB 0 Try.underlying53 rfl rfl fz51 rfl) rfl ?_ | refine op_v (v_fieldI 0 Try.underlying53 rfl rfl fz51 rfl (by assumption)) rfl ?_ | refine op_v (v_field Try.underlying53 rfl fz51 rfl rfl) rfl ?_
        refine op_v (v_loadA ty51 rfl rfl) rfl ?_
        refine op_v (v_len Try.underlying51 rfl) rfl ?_
        first | refine op_v (v_cmptA rfl rfl rfl) rfl ?_ | refine op_v (v_cmpfA rfl rfl rfl) rfl ?_ | refine op_v (v_cmp rfl rfl rfl) rfl ?_
        refine ops_nil ?_
        refine post_next ?_
        refine code_cond rfl (fun hc2 => ?_) (fun hc2 => ?_)
        · have hlt : k < xs.length := by simpa using hc2
          have hxm : gt xs k ∈ xs := by rw [gt_at hlt]; exact List.getElem_mem hlt
          refine code_skip ?_
          refine post_next ?_
          refine code_seq ?_
          refine code_block ?_
          refine code_seq ?_
          refine code_region ?_
          refine OpsJ.rowSome (Has.there (Has.there Has.here)) (by omega) (fun hA hcr => ?_)
          refine op_v (v_move rfl) rfl ?_
          by_cases h54 : k = 0
          · first | refine op_v (v_cmptA rfl rfl rfl) rfl ?_ | refine op_v (v_cmpfA rfl rfl rfl) rfl ?_ | refine op_v (v_cmp rfl rfl rfl) rfl ?_
            refine op_v (v_move rfl) rfl ?_
            first
              | (refine op_want rfl rfl ?_
                 refine op_v (v_move rfl) rfl ?_)
              | (refine op_skip rfl rfl (by simp [undef]) rfl ?_)
            first
              | (refine op_want rfl rfl ?_
                 refine op_v (v_nilCheck rfl) rfl ?_)
              | (refine op_skip rfl rfl (by simp [undef]) rfl ?_)
            first
              | (refine op_want rfl rfl ?_
                 first | refine op_v (v_fieldB 0 Try.underlying70 rfl rfl fz53 rfl) rfl ?_ | refine op_v (v_fieldI 0 Try.underlying70 rfl rfl fz53 rfl (by assumption)) rfl ?_ | refine op_v (v_field Try.underlying70 rfl fz53 rfl rfl) rfl ?_)
              | (refine op_skip rfl rfl (by simp [undef]) rfl ?_)
            first
              | (refine op_want rfl rfl ?_
                 first | refine op_v (v_fieldB 0 Try.underlying53 rfl rfl fz51 rfl) rfl ?_ | refine op_v (v_fieldI 0 Try.underlying53 rfl rfl fz51 rfl (by assumption)) rfl ?_ | refine op_v (v_field Try.underlying53 rfl fz51 rfl rfl) rfl ?_)
              | (refine op_skip rfl rfl (by simp [undef]) rfl ?_)
            first
              | (refine op_want rfl rfl ?_
                 refine op_v (v_loadA ty51 rfl rfl) rfl ?_)
              | (refine op_skip rfl rfl (by simp [undef]) rfl ?_)
            first
              | (refine op_want rfl rfl ?_
                 refine op_v (v_move rfl) rfl ?_)
              | (refine op_skip rfl rfl (by simp [undef]) rfl ?_)
            first
              | (refine op_want rfl rfl ?_
                 first | refine op_v (v_indexA Try.underlying51 sz57 rfl rfl) rfl ?_ | refine op_v (v_indexIA Try.underlying51 sz57 rfl rfl) rfl ?_)
              | (refine op_skip rfl rfl (by simp [undef]) rfl ?_)
            first
              | (refine op_want rfl rfl ?_
                 first | refine op_v (v_fieldB 1 Try.underlying57 rfl rfl fz3 rfl) rfl ?_ | refine op_v (v_fieldI 1 Try.underlying57 rfl rfl fz3 rfl (by assumption)) rfl ?_ | refine op_v (v_field Try.underlying57 rfl fz3 rfl rfl) rfl ?_)
              | (refine op_skip rfl rfl (by simp [undef]) rfl ?_)
            first
              | (refine op_want rfl rfl ?_
                 refine op_v (v_loadRow ty3 rfl (Has.there (Has.there Has.here)) hA (ld_id hlt)) rfl ?_)
              | (refine op_skip rfl rfl (by simp [undef]) rfl ?_)
            first
              | (refine op_want rfl rfl ?_
                 refine op_v (v_move rfl) rfl ?_)
              | (refine op_skip rfl rfl (by simp [undef]) rfl ?_)
            first
              | (refine op_want rfl rfl ?_
                 first | refine op_v (v_cmptA rfl rfl rfl) rfl ?_ | refine op_v (v_cmpfA rfl rfl rfl) rfl ?_ | refine op_v (v_cmp rfl rfl rfl) rfl ?_)
              | (refine op_skip rfl rfl (by simp [undef]) rfl ?_)
            first | refine op_v (v_pickt rfl rfl) rfl ?_ | refine op_v (v_pickf rfl rfl) rfl ?_ | refine op_v (v_pickb rfl rfl rfl) rfl ?_
            refine ops_nil ?_
            refine post_next ?_
            refine code_cond_t rfl ?_
            refine code_region ?_
            refine op_v (v_move rfl) rfl ?_
            refine op_v (v_nilCheck rfl) rfl ?_
            first | refine op_v (v_fieldB 0 Try.underlying70 rfl rfl fz53 rfl) rfl ?_ | refine op_v (v_fieldI 0 Try.underlying70 rfl rfl fz53 rfl (by assumption)) rfl ?_ | refine op_v (v_field Try.underlying70 rfl fz53 rfl rfl) rfl ?_
            first | refine op_v (v_fieldB 0 Try.underlying53 rfl rfl fz51 rfl) rfl ?_ | refine op_v (v_fieldI 0 Try.underlying53 rfl rfl fz51 rfl (by assumption)) rfl ?_ | refine op_v (v_field Try.underlying53 rfl fz51 rfl rfl) rfl ?_
            refine op_v (v_loadA ty51 rfl rfl) rfl ?_
            refine op_v (v_move rfl) rfl ?_
            first | refine op_v (v_indexA Try.underlying51 sz57 rfl rfl) rfl ?_ | refine op_v (v_indexIA Try.underlying51 sz57 rfl rfl) rfl ?_
            first | refine op_v (v_fieldB 1 Try.underlying57 rfl rfl fz3 rfl) rfl ?_ | refine op_v (v_fieldI 1 Try.underlying57 rfl rfl fz3 rfl (by assumption)) rfl ?_ | refine op_v (v_field Try.underlying57 rfl fz3 rfl rfl) rfl ?_
            refine op_v (v_loadRow ty3 rfl (Has.there (Has.there Has.here)) hA (ld_id hlt)) rfl ?_
            refine op_v (v_assign rfl) rfl ?_
            refine ops_nil ?_
            refine post_out ?_
            refine post_next ?_
            refine code_region ?_
            refine op_v (v_move rfl) rfl ?_
            first | refine op_v (v_addb rfl rfl rfl (by omega)) rfl ?_ | refine op_v (v_add rfl rfl) rfl ?_
            refine op_v (v_assign rfl) rfl ?_
            refine ops_nil ?_
            refine post_again (xs.length - (k + 1)) [(0, .pointer (some ⟨rb, 0, none⟩)), (6, .int .i64 (gt xs k).2), (7, .int .i64 (k + 1 : Nat))] (by omega) ⟨k + 1, gt xs k, rfl, hlt, rfl, rfl, rfl, hxm, fun j hj => by rw [show j = k by omega]; exact Int.le_refl _⟩ ⟨rfl, rfl, rfl, trivial⟩
          · first | refine op_v (v_cmptA rfl rfl rfl) rfl ?_ | refine op_v (v_cmpfA rfl rfl rfl) rfl ?_ | refine op_v (v_cmp rfl rfl rfl) rfl ?_
            refine op_v (v_move rfl) rfl ?_
            first
              | (refine op_want rfl rfl ?_
                 refine op_v (v_move rfl) rfl ?_)
              | (refine op_skip rfl rfl (by simp [undef]) rfl ?_)
            first
              | (refine op_want rfl rfl ?_
                 refine op_v (v_nilCheck rfl) rfl ?_)
              | (refine op_skip rfl rfl (by simp [undef]) rfl ?_)
            first
              | (refine op_want rfl rfl ?_
                 first | refine op_v (v_fieldB 0 Try.underlying70 rfl rfl fz53 rfl) rfl ?_ | refine op_v (v_fieldI 0 Try.underlying70 rfl rfl fz53 rfl (by assumption)) rfl ?_ | refine op_v (v_field Try.underlying70 rfl fz53 rfl rfl) rfl ?_)
              | (refine op_skip rfl rfl (by simp [undef]) rfl ?_)
            first
              | (refine op_want rfl rfl ?_
                 first | refine op_v (v_fieldB 0 Try.underlying53 rfl rfl fz51 rfl) rfl ?_ | refine op_v (v_fieldI 0 Try.underlying53 rfl rfl fz51 rfl (by assumption)) rfl ?_ | refine op_v (v_field Try.underlying53 rfl fz51 rfl rfl) rfl ?_)
              | (refine op_skip rfl rfl (by simp [undef]) rfl ?_)
            first
              | (refine op_want rfl rfl ?_
                 refine op_v (v_loadA ty51 rfl rfl) rfl ?_)
              | (refine op_skip rfl rfl (by simp [undef]) rfl ?_)
            first
              | (refine op_want rfl rfl ?_
                 refine op_v (v_move rfl) rfl ?_)
              | (refine op_skip rfl rfl (by simp [undef]) rfl ?_)
            first
              | (refine op_want rfl rfl ?_
                 first | refine op_v (v_indexA Try.underlying51 sz57 rfl rfl) rfl ?_ | refine op_v (v_indexIA Try.underlying51 sz57 rfl rfl) rfl ?_)
              | (refine op_skip rfl rfl (by simp [undef]) rfl ?_)
            first
              | (refine op_want rfl rfl ?_
                 first | refine op_v (v_fieldB 1 Try.underlying57 rfl rfl fz3 rfl) rfl ?_ | refine op_v (v_fieldI 1 Try.underlying57 rfl rfl fz3 rfl (by assumption)) rfl ?_ | refine op_v (v_field Try.underlying57 rfl fz3 rfl rfl) rfl ?_)
              | (refine op_skip rfl rfl (by simp [undef]) rfl ?_)
            first
              | (refine op_want rfl rfl ?_
                 refine op_v (v_loadRow ty3 rfl (Has.there (Has.there Has.here)) hA (ld_id hlt)) rfl ?_)
              | (refine op_skip rfl rfl (by simp [undef]) rfl ?_)
            first
              | (refine op_want rfl rfl ?_
                 refine op_v (v_move rfl) rfl ?_)
              | (refine op_skip rfl rfl (by simp [undef]) rfl ?_)
            by_cases h66 : (gt xs k).2 < y.2
            · first
                | (refine op_want rfl rfl ?_
                   first | refine op_v (v_cmptA rfl rfl rfl) rfl ?_ | refine op_v (v_cmpfA rfl rfl rfl) rfl ?_ | refine op_v (v_cmp rfl rfl rfl) rfl ?_)
                | (refine op_skip rfl rfl (by simp [undef]) rfl ?_)
              first | refine op_v (v_pickt rfl rfl) rfl ?_ | refine op_v (v_pickf rfl rfl) rfl ?_ | refine op_v (v_pickb rfl rfl rfl) rfl ?_
              refine ops_nil ?_
              refine post_next ?_
              refine code_cond_t rfl ?_
              refine code_region ?_
              refine op_v (v_move rfl) rfl ?_
              refine op_v (v_nilCheck rfl) rfl ?_
              first | refine op_v (v_fieldB 0 Try.underlying70 rfl rfl fz53 rfl) rfl ?_ | refine op_v (v_fieldI 0 Try.underlying70 rfl rfl fz53 rfl (by assumption)) rfl ?_ | refine op_v (v_field Try.underlying70 rfl fz53 rfl rfl) rfl ?_
              first | refine op_v (v_fieldB 0 Try.underlying53 rfl rfl fz51 rfl) rfl ?_ | refine op_v (v_fieldI 0 Try.underlying53 rfl rfl fz51 rfl (by assumption)) rfl ?_ | refine op_v (v_field Try.underlying53 rfl fz51 rfl rfl) rfl ?_
              refine op_v (v_loadA ty51 rfl rfl) rfl ?_
              refine op_v (v_move rfl) rfl ?_
              first | refine op_v (v_indexA Try.underlying51 sz57 rfl rfl) rfl ?_ | refine op_v (v_indexIA Try.underlying51 sz57 rfl rfl) rfl ?_
              first | refine op_v (v_fieldB 1 Try.underlying57 rfl rfl fz3 rfl) rfl ?_ | refine op_v (v_fieldI 1 Try.underlying57 rfl rfl fz3 rfl (by assumption)) rfl ?_ | refine op_v (v_field Try.underlying57 rfl fz3 rfl rfl) rfl ?_
              refine op_v (v_loadRow ty3 rfl (Has.there (Has.there Has.here)) hA (ld_id hlt)) rfl ?_
              refine op_v (v_assign rfl) rfl ?_
              refine ops_nil ?_
              refine post_out ?_
              refine post_next ?_
              refine code_region ?_
              refine op_v (v_move rfl) rfl ?_
              first | refine op_v (v_addb rfl rfl rfl (by omega)) rfl ?_ | refine op_v (v_add rfl rfl) rfl ?_
              refine op_v (v_assign rfl) rfl ?_
              refine ops_nil ?_
              refine post_again (xs.length - (k + 1)) [(0, .pointer (some ⟨rb, 0, none⟩)), (6, .int .i64 (gt xs k).2), (7, .int .i64 (k + 1 : Nat))] (by omega) ⟨k + 1, gt xs k, rfl, hlt, rfl, rfl, rfl, hxm, fun j hj => ?_⟩ ⟨rfl, rfl, rfl, trivial⟩
              by_cases e : j = k
              · rw [e]; exact Int.le_refl _
              · have := hyl j (by omega); omega
            · first
                | (refine op_want rfl rfl ?_
                   first | refine op_v (v_cmptA rfl rfl rfl) rfl ?_ | refine op_v (v_cmpfA rfl rfl rfl) rfl ?_ | refine op_v (v_cmp rfl rfl rfl) rfl ?_)
                | (refine op_skip rfl rfl (by simp [undef]) rfl ?_)
              first | refine op_v (v_pickt rfl rfl) rfl ?_ | refine op_v (v_pickf rfl rfl) rfl ?_ | refine op_v (v_pickb rfl rfl rfl) rfl ?_
              refine ops_nil ?_
              refine post_next ?_
              refine code_cond_f rfl ?_
              refine code_skip ?_
              refine post_out ?_
              refine post_next ?_
              refine code_region ?_
              refine op_v (v_move rfl) rfl ?_
              first | refine op_v (v_addb rfl rfl rfl (by omega)) rfl ?_ | refine op_v (v_add rfl rfl) rfl ?_
              refine op_v (v_assign rfl) rfl ?_
              refine ops_nil ?_
              refine post_again (xs.length - (k + 1)) [(0, .pointer (some ⟨rb, 0, none⟩)), (6, .int .i64 y.2), (7, .int .i64 (k + 1 : Nat))] (by omega) ⟨k + 1, y, rfl, hlt, rfl, rfl, rfl, hyx, fun j hj => ?_⟩ ⟨rfl, rfl, rfl, trivial⟩
              by_cases e : j = k
              · rw [e]; omega
              · exact hyl j (by omega)
        · have hge : k = xs.length := by simp at hc2; omega
          refine code_exit ?_
          refine post_exit_then ?_
          refine post_exit_then ?_
          refine post_exit ?_
          refine PostJ.view (View.drop Del.here) (post_meet _ ⟨y, rfl, rfl, rfl, hyx, ?_⟩ ⟨rfl, rfl, trivial⟩)
          unfold NextQ; rw [if_pos h42]
          intro z hz
          obtain ⟨j, hj, rfl⟩ := List.getElem_of_mem hz
          rw [← gt_at hj]; exact hyl j (by omega)
      · first | refine e_fl rfl rfl (fun hs_ => PF.mk rfl (v_cmptA rfl rfl rfl) hs_) ?_ | refine e_fl rfl rfl (fun hs_ => PF.mk rfl (v_cmpfA rfl rfl rfl) hs_) ?_ | refine e_fl rfl rfl (fun hs_ => PF.mk rfl (v_cmp rfl rfl rfl) hs_) ?_
        refine e_done ?_
        refine post_next ?_
        refine code_cond_f rfl ?_
        refine code_skip ?_
        refine PostJ.view (View.drop Del.here) (post_meet _ ⟨m, rfl, rfl, rfl, hmx, ?_⟩ ⟨rfl, rfl, trivial⟩)
        unfold NextQ; rw [if_neg h42]; exact hmin
    · rintro _ _ _ ⟨y, rfl, rfl, rfl, hyx, hyq⟩
      refine code_seq ?_
      refine code_region ?_
      refine op_v (v_move rfl) rfl ?_
      refine op_v (v_move rfl) rfl ?_
      refine op_v (v_nilCheck rfl) rfl ?_
      first | refine op_v (v_fieldB 3 Try.underlying70 rfl rfl fz3 rfl) rfl ?_ | refine op_v (v_fieldI 3 Try.underlying70 rfl rfl fz3 rfl (by assumption)) rfl ?_ | refine op_v (v_field Try.underlying70 rfl fz3 rfl rfl) rfl ?_
      refine op_v (v_loadA ty3 rfl rfl) rfl ?_
      refine op_v (v_addb (c := ((told + 1 : Nat) : Int)) rfl rfl (by omega) (by omega)) rfl ?_
      refine op_v (v_nilCheck rfl) rfl ?_
      first | refine op_v (v_fieldB 3 Try.underlying70 rfl rfl fz3 rfl) rfl ?_ | refine op_v (v_fieldI 3 Try.underlying70 rfl rfl fz3 rfl (by assumption)) rfl ?_ | refine op_v (v_field Try.underlying70 rfl fz3 rfl rfl) rfl ?_
      refine o_store ty3 rfl rfl rfl rfl rfl (by repeat (first | exact Swap.here | apply Swap.there)) rfl ?_
      refine ops_nil ?_
      refine post_next ?_
      refine code_seq ?_
      refine code_region ?_
      refine op_v (v_move rfl) rfl ?_
      refine op_v (v_nilCheck rfl) rfl ?_
      first | refine op_v (v_fieldB 0 Try.underlying70 rfl rfl fz53 rfl) rfl ?_ | refine op_v (v_fieldI 0 Try.underlying70 rfl rfl fz53 rfl (by assumption)) rfl ?_ | refine op_v (v_field Try.underlying70 rfl fz53 rfl rfl) rfl ?_
      refine op_v (v_move rfl) rfl ?_
      refine op_call pl27 rfl rfl ((RHDrop_does hl)) Parts.all ?_
      rintro v89 I89 _ hI89 ⟨b89, A89, c89, ys89, rfl, hr89, rfl⟩
      rw [List.append_nil]
      refine ops_nil ?_
      refine post_next ?_
      refine code_seq ?_
      refine code_region ?_
      refine op_v (v_move rfl) rfl ?_
      refine op_v (v_assign rfl) rfl ?_
      refine op_v (v_assign rfl) rfl ?_
      refine ops_nil ?_
      refine post_next ?_
      refine code_ret ?_
      refine post_ret (rs := [.tmp 2, .tmp 3]) rfl (List.Perm.refl _) (.cons (.tmp rfl) (.cons (.tmp rfl) .nil)) (List.Sublist.refl _) ?_
      rcases hr89 with ⟨hno, _, _⟩ | ⟨x, hx, _, hp⟩
      · exact absurd (List.mem_map_of_mem (f := fun x : It => x.2) hyx) hno
      · have e : x = y := nodup_inj hn (hp.mem_iff.2 (List.mem_cons_self ..)) hyx hx
        subst e
        exact .inr ⟨x, ys89, A89, c89, hp, rfl, hyq, rfl⟩
end Go.Proofs.Ythbcdffldcdfoaa
