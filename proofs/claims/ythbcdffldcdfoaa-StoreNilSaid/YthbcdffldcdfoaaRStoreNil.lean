/- The statement of the law StoreNil holds: for every input the call returns true, and the arguments read as before. No condition. -/
import Derived.Test.YthbcdffldcdfoaaRows
import Derived.Test.YthbcdffldcdfoaaChecked
import Derived.Test.YthbcdffldcdfoaaVe
import Derived.Test.YthbcdffldcdfoaaZ2
set_option linter.unusedVariables false
namespace Go.Proofs.Ythbcdffldcdfoaa.storeNil
open Go Lg Go.ChangeShapes Go.WideShapes Go.ChangeAt Go.RowKit
theorem own : ownKnob Try.prog.godebug = none := by kernel_rfl
theorem laidOut : laidOutB Try.prog = true := by kernel_rfl
theorem tree : TreeTy Try.prog 108 93 3 := ⟨⟨_, Try.underlying108, rfl, ⟨_, _, rfl, rfl, rfl, rfl, rfl, rfl, rfl⟩⟩, Try.underlying93, Try.underlying3, by kernel_rfl, by kernel_rfl, by kernel_rfl, by kernel_rfl⟩
theorem layL : LiLay Try.prog 110 108 93 3 4 := ⟨tree, ⟨_, _, _, Try.underlying110, ⟨rfl, rfl⟩, ⟨rfl, rfl⟩, rfl, rfl⟩, Try.underlying4, by kernel_rfl, by kernel_rfl⟩
theorem layC : ClLay Try.prog 27 110 108 93 3 4 := ⟨layL, Try.underlying27, by kernel_rfl⟩
set_option maxRecDepth 100000 in
theorem lifted (os : Os) (started : os.Started) (H : Type) (enc : TypeId × Value → H) :
    ReturnsInHanded {} Try.checked os 4 .any (Rows.storeNilSpec.pre6 enc Try.prog Try.f4 Rows.storeNilRow.domain false) (Rows.storeNilSpec.post enc Try.prog Try.f4 false true false false) := by
  refine returnsInHanded_of_change_sized (C := Try.checked) own started (by kernel_rfl) Try.func4
    (ChangeSpec.witness6 (enc := enc) (C := Try.checked) false ⟨#[], #[.slice none 0 0, .int .i64 0, .int .i64 0], []⟩ 8 (by kernel_rfl) (by kernel_rfl) (by kernel_rfl) (by kernel_rfl)) ?_
  intro W base args ds gs before hval0 hW hcnd hsz0 _
  have hsz : (DataW.weightsEach Try.prog (Try.f4.params.toList ++ Rows.storeNilSpec.plain.varTypes Try.prog) (ds ++ gs)).all (· ≤ reachBytes) = true := hsz0
  have hval : ∀ (j : Nat) t v, Try.f4.params[j]? = some t → args[j]? = some v → Value.okWide Try.prog W .any base t v := hval0
  have hW' := hW
  obtain ⟨p, q, hA0, hV, rfl, hfz, hnd⟩ := hW
  have hA : DataW.TrodAll enc Try.prog W 0 (fun _ => true) true Try.f4.params.toList args.toList ds p := hA0
  rw [Try.params4] at hA hval hsz
  obtain ⟨v0, vs0, d0, ds0, p0, q0, hargs, rfl, rfl, h0, r0⟩ := trodAll_cons hA
  obtain ⟨v1, vs1, d1, ds1, p1, q1, rfl, rfl, rfl, h1, r1⟩ := trodAll_cons r0
  obtain ⟨v2, vs2, d2, ds2, p2, q2, rfl, rfl, rfl, h2, r2⟩ := trodAll_cons r1
  obtain ⟨rfl, rfl, rfl⟩ := trodAll_nil r2
  obtain rfl : args = #[v0, v1, v2] := by cases args; simp_all
  obtain ⟨rfl, rfl⟩ := trodVars_none hV
  obtain ⟨x0, g0⟩ := openCv layC h0 (weights_at hsz 0 27 d0 rfl rfl) (okWide_slice Try.underlying27 (hval 0 27 v0 rfl rfl))
  have k0 := h0
  have lt0 : ∀ x ∈ p0, x.block < W.heap.size := by obtain ⟨m, hm⟩ := k0; exact DataW.trod_lt m _ _ _ hm
  obtain ⟨x1, rfl, rfl, rfl, g1⟩ := open_int Try.underlying3 (hval 1 3 v1 rfl rfl) h1
  obtain ⟨x2, rfl, rfl, rfl, g2⟩ := open_int Try.underlying3 (hval 2 3 v2 rfl rfl) h2
  refine ((StoreNil_does g0 (wf_in g1) (wf_in g2)) W (hSat W)).mono fun e W' ⟨v, I', δ', he, hs', ht', hv, _⟩ => ?_
  subst hv
  subst he
  have bel : Below W.heap.size W W' := tr_below ht'
  exact ⟨_, rfl, _, _, _, [], _, [], hW', trodAll_mk1 (shut_bool Try.underlying4 _), (trodAll_cons_mk (Below.trod laidOut (by kernel_rfl) (of_decide_eq_true (by kernel_rfl)) k0 bel lt0) (trodAll_cons_mk (shut_int Try.underlying3 g1) (trodAll_cons_mk (shut_int Try.underlying3 g2) trodAll_mk0))), rfl, bel.frame _, fun h => by cases h⟩
theorem over : Rows.storeNilRow.holds Try.pinned (OpenSpec.ofChange Rows.storeNilSpec) :=
  OpenClaim.holds_of_wide 4 Try.f4 rfl rfl rfl rfl rfl rfl rfl ⟨rfl, rfl, rfl, rfl, rfl⟩ rfl rfl rfl rfl rfl (by kernel_rfl) Try.func4 (by kernel_rfl)
    (of_decide_eq_true (by kernel_rfl)) (by unfold Func.isWrapper; first | (rw [if_pos (by decide +kernel)]; kernel_rfl) | (rw [if_neg (by decide +kernel)]; exact ⟨rfl, rfl⟩))
    (fun os started H enc _ => lifted os started H enc)
end Go.Proofs.Ythbcdffldcdfoaa.storeNil
namespace Go.Proofs.Ythbcdffldcdfoaa
/-- The row. -/
theorem storeNil_holds : Rows.StoreNilSaid := storeNil.over
#print axioms storeNil_holds
end Go.Proofs.Ythbcdffldcdfoaa
