/- The statement of the law ClausePairs holds: for every input the call returns true, and the arguments read as before. No condition. -/
import Derived.Test.YtdbadicpbmndbaaGreatRows
import Derived.Test.YtdbadicpbmndbaaGreatChecked
import Derived.Test.YtdbadicpbmndbaaGreatUj
import Derived.Test.YtdbadicpbmndbaaGreatZ6
set_option linter.unusedVariables false
namespace Go.Proofs.YtdbadicpbmndbaaGreat.clausePairs
open Go Lg Go.ChangeShapes Go.WideShapes Go.ChangeAt Go.RowKit
theorem own : ownKnob Tryz.prog.godebug = none := by kernel_rfl
theorem laidOut : laidOutB Tryz.prog = true := by kernel_rfl
theorem tree : TreeTy Tryz.prog 48 46 3 := ⟨⟨_, Tryz.underlying48, rfl, ⟨_, _, rfl, rfl, rfl, rfl, rfl, rfl, rfl⟩⟩, Tryz.underlying46, Tryz.underlying3, by kernel_rfl, by kernel_rfl, by kernel_rfl, by kernel_rfl⟩
theorem layL : LiLay Tryz.prog 59 48 46 3 4 := ⟨tree, ⟨_, _, _, Tryz.underlying59, ⟨rfl, rfl⟩, ⟨rfl, rfl⟩, rfl, rfl⟩, Tryz.underlying4, by kernel_rfl, by kernel_rfl⟩
theorem layC : ClLay Tryz.prog 23 59 48 46 3 4 := ⟨layL, Tryz.underlying23, by kernel_rfl⟩
theorem lay : SyLay Tryz.prog 22 85 9 3 4 := ⟨syTy, Tryz.underlying22, by kernel_rfl, by kernel_rfl, by kernel_rfl, by kernel_rfl, by kernel_rfl⟩
set_option maxRecDepth 100000 in
theorem lifted (os : Os) (started : os.Started) (H : Type) (enc : TypeId × Value → H) :
    ReturnsInHanded {} Tryz.checked os 4 .any (Rows.clausePairsSpec.pre6 enc Tryz.prog Tryz.f4 Rows.clausePairsRow.domain false) (Rows.clausePairsSpec.post enc Tryz.prog Tryz.f4 false true false false) := by
  refine returnsInHanded_of_change_sized (C := Tryz.checked) own started (by kernel_rfl) Tryz.func4
    (ChangeSpec.witness6 (enc := enc) (C := Tryz.checked) false ⟨#[], #[.slice none 0 0, .slice none 0 0, .slice none 0 0], []⟩ 8 (by kernel_rfl) (by kernel_rfl) (by kernel_rfl) (by kernel_rfl)) ?_
  intro W base args ds gs before hval0 hW hcnd hsz0 _
  have hsz : (DataW.weightsEach Tryz.prog (Tryz.f4.params.toList ++ Rows.clausePairsSpec.plain.varTypes Tryz.prog) (ds ++ gs)).all (· ≤ reachBytes) = true := hsz0
  have hval : ∀ (j : Nat) t v, Tryz.f4.params[j]? = some t → args[j]? = some v → Value.okWide Tryz.prog W .any base t v := hval0
  have hW' := hW
  obtain ⟨p, q, hA0, hV, rfl, hfz, hnd⟩ := hW
  have hA : DataW.TrodAll enc Tryz.prog W 0 (fun _ => true) true Tryz.f4.params.toList args.toList ds p := hA0
  rw [Tryz.params4] at hA hval hsz
  obtain ⟨v0, vs0, d0, ds0, p0, q0, hargs, rfl, rfl, h0, r0⟩ := trodAll_cons hA
  obtain ⟨v1, vs1, d1, ds1, p1, q1, rfl, rfl, rfl, h1, r1⟩ := trodAll_cons r0
  obtain ⟨v2, vs2, d2, ds2, p2, q2, rfl, rfl, rfl, h2, r2⟩ := trodAll_cons r1
  obtain ⟨rfl, rfl, rfl⟩ := trodAll_nil r2
  obtain rfl : args = #[v0, v1, v2] := by cases args; simp_all
  obtain ⟨rfl, rfl⟩ := trodVars_none hV
  obtain ⟨x0, g0⟩ := openGv lay h0 (weights_at hsz 0 22 d0 rfl rfl) (okWide_slice Tryz.underlying22 (hval 0 22 v0 rfl rfl))
  have k0 := h0
  have lt0 : ∀ x ∈ p0, x.block < W.heap.size := by obtain ⟨m, hm⟩ := k0; exact DataW.trod_lt m _ _ _ hm
  obtain ⟨x1, g1⟩ := openCv layC h1 (weights_at hsz 1 23 d1 rfl rfl) (okWide_slice Tryz.underlying23 (hval 1 23 v1 rfl rfl))
  have k1 := h1
  have lt1 : ∀ x ∈ p1, x.block < W.heap.size := by obtain ⟨m, hm⟩ := k1; exact DataW.trod_lt m _ _ _ hm
  obtain ⟨x2, g2⟩ := openCv layC h2 (weights_at hsz 2 23 d2 rfl rfl) (okWide_slice Tryz.underlying23 (hval 2 23 v2 rfl rfl))
  have k2 := h2
  have lt2 : ∀ x ∈ p2, x.block < W.heap.size := by obtain ⟨m, hm⟩ := k2; exact DataW.trod_lt m _ _ _ hm
  refine ((ClausePairs_does g0 g1 g2) W (hSat W)).mono fun e W' ⟨v, I', δ', he, hs', ht', hv, _⟩ => ?_
  subst hv
  subst he
  have bel : Below W.heap.size W W' := tr_below ht'
  exact ⟨_, rfl, _, _, _, [], _, [], hW', trodAll_mk1 (shut_bool Tryz.underlying4 _), (trodAll_cons_mk (Below.trod laidOut (by kernel_rfl) (of_decide_eq_true (by kernel_rfl)) k0 bel lt0) (trodAll_cons_mk (Below.trod laidOut (by kernel_rfl) (of_decide_eq_true (by kernel_rfl)) k1 bel lt1) (trodAll_cons_mk (Below.trod laidOut (by kernel_rfl) (of_decide_eq_true (by kernel_rfl)) k2 bel lt2) trodAll_mk0))), rfl, bel.frame _, fun h => by cases h⟩
theorem over : Rows.clausePairsRow.holds Tryz.pinned (OpenSpec.ofChange Rows.clausePairsSpec) :=
  OpenClaim.holds_of_wide 4 Tryz.f4 rfl rfl rfl rfl rfl rfl rfl ⟨rfl, rfl, rfl, rfl, rfl⟩ rfl rfl rfl rfl rfl (by kernel_rfl) Tryz.func4 (by kernel_rfl)
    (of_decide_eq_true (by kernel_rfl)) (by unfold Func.isWrapper; first | (rw [if_pos (by decide +kernel)]; kernel_rfl) | (rw [if_neg (by decide +kernel)]; exact ⟨rfl, rfl⟩))
    (fun os started H enc _ => lifted os started H enc)
end Go.Proofs.YtdbadicpbmndbaaGreat.clausePairs
namespace Go.Proofs.YtdbadicpbmndbaaGreat
/-- The row. -/
theorem clausePairs_holds : Rows.ClausePairsSaid := clausePairs.over
#print axioms clausePairs_holds
end Go.Proofs.YtdbadicpbmndbaaGreat
