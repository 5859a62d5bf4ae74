/- The statement of the law HeapQueues holds: for every input the call returns true, and the arguments read as before. No condition. -/
import Derived.Test.YthbcdffldcdfoaaRows
import Derived.Test.YthbcdffldcdfoaaChecked
import Derived.Test.YthbcdffldcdfoaaHz
import Derived.Test.YthbcdffldcdfoaaZ3
set_option linter.unusedVariables false
namespace Go.Proofs.Ythbcdffldcdfoaa.heapQueues
open Go Lg Go.ChangeShapes Go.WideShapes Go.ChangeAt Go.RowKit
theorem own : ownKnob Try.prog.godebug = none := by kernel_rfl
theorem laidOut : laidOutB Try.prog = true := by kernel_rfl
theorem lay3 : NLay Try.prog 55 3 3 := ⟨⟨_, Try.underlying55, rfl, fun i f h => by rcases i with _ | _ | _ | i; all_goals first | (cases h; exact ⟨rfl, rfl⟩) | (exact absurd h (by simp))⟩, Try.underlying3, by kernel_rfl, by kernel_rfl⟩
set_option maxRecDepth 100000 in
theorem lifted (os : Os) (started : os.Started) (H : Type) (enc : TypeId × Value → H) :
    ReturnsInHanded {} Try.checked os 6 .any (Rows.heapQueuesSpec.pre6 enc Try.prog Try.f6 Rows.heapQueuesRow.domain false) (Rows.heapQueuesSpec.post enc Try.prog Try.f6 false true false false) := by
  refine returnsInHanded_of_change_sized (C := Try.checked) own started (by kernel_rfl) Try.func6
    (ChangeSpec.witness6 (enc := enc) (C := Try.checked) false ⟨#[], #[.int .i64 0, .int .i64 0, .slice none 0 0], []⟩ 8 (by kernel_rfl) (by kernel_rfl) (by kernel_rfl) (by kernel_rfl)) ?_
  intro W base args ds gs before hval0 hW hcnd hsz0 _
  have hsz : (DataW.weightsEach Try.prog (Try.f6.params.toList ++ Rows.heapQueuesSpec.plain.varTypes Try.prog) (ds ++ gs)).all (· ≤ reachBytes) = true := hsz0
  have hval : ∀ (j : Nat) t v, Try.f6.params[j]? = some t → args[j]? = some v → Value.okWide Try.prog W .any base t v := hval0
  have hW' := hW
  obtain ⟨p, q, hA0, hV, rfl, hfz, hnd⟩ := hW
  have hA : DataW.TrodAll enc Try.prog W 0 (fun _ => true) true Try.f6.params.toList args.toList ds p := hA0
  rw [Try.params6] at hA hval hsz
  obtain ⟨v0, vs0, d0, ds0, p0, q0, hargs, rfl, rfl, h0, r0⟩ := trodAll_cons hA
  obtain ⟨v1, vs1, d1, ds1, p1, q1, rfl, rfl, rfl, h1, r1⟩ := trodAll_cons r0
  obtain ⟨v2, vs2, d2, ds2, p2, q2, rfl, rfl, rfl, h2, r2⟩ := trodAll_cons r1
  obtain ⟨rfl, rfl, rfl⟩ := trodAll_nil r2
  obtain rfl : args = #[v0, v1, v2] := by cases args; simp_all
  obtain ⟨rfl, rfl⟩ := trodVars_none hV
  obtain ⟨x0, rfl, rfl, rfl, g0⟩ := open_int Try.underlying3 (hval 0 3 v0 rfl rfl) h0
  obtain ⟨x1, rfl, rfl, rfl, g1⟩ := open_int Try.underlying3 (hval 1 3 v1 rfl rfl) h1
  obtain ⟨x2, g2⟩ := openNs (b := 24) lay3 Try.underlying47 (by kernel_rfl) (by omega) h2 (weights_at hsz 2 47 d2 rfl rfl) (okWide_slice Try.underlying47 (hval 2 47 v2 rfl rfl))
  have k2 := h2
  have lt2 : ∀ x ∈ p2, x.block < W.heap.size := by obtain ⟨m, hm⟩ := k2; exact DataW.trod_lt m _ _ _ hm
  refine ((HeapQueues_does (wf_in g0) (wf_in g1) g2) W (hSat W)).mono fun e W' ⟨v, I', δ', he, hs', ht', hv, _⟩ => ?_
  subst hv
  subst he
  have bel : Below W.heap.size W W' := tr_below ht'
  exact ⟨_, rfl, _, _, _, [], _, [], hW', trodAll_mk1 (shut_bool Try.underlying4 _), (trodAll_cons_mk (shut_int Try.underlying3 g0) (trodAll_cons_mk (shut_int Try.underlying3 g1) (trodAll_cons_mk (Below.trod laidOut (by kernel_rfl) (of_decide_eq_true (by kernel_rfl)) k2 bel lt2) trodAll_mk0))), rfl, bel.frame _, fun h => by cases h⟩
theorem over : Rows.heapQueuesRow.holds Try.pinned (OpenSpec.ofChange Rows.heapQueuesSpec) :=
  OpenClaim.holds_of_wide 6 Try.f6 rfl rfl rfl rfl rfl rfl rfl ⟨rfl, rfl, rfl, rfl, rfl⟩ rfl rfl rfl rfl rfl (by kernel_rfl) Try.func6 (by kernel_rfl)
    (of_decide_eq_true (by kernel_rfl)) (by unfold Func.isWrapper; first | (rw [if_pos (by decide +kernel)]; kernel_rfl) | (rw [if_neg (by decide +kernel)]; exact ⟨rfl, rfl⟩))
    (fun os started H enc _ => lifted os started H enc)
end Go.Proofs.Ythbcdffldcdfoaa.heapQueues
namespace Go.Proofs.Ythbcdffldcdfoaa
/-- The row. -/
theorem heapQueues_holds : Rows.HeapQueuesSaid := heapQueues.over
#print axioms heapQueues_holds
end Go.Proofs.Ythbcdffldcdfoaa
