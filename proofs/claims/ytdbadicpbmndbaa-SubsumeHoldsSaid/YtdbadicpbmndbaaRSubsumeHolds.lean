/- The statement of the law SubsumeHolds holds: for every input the call returns true, and the arguments read as before. No condition. -/
import Derived.Test.YtdbadicpbmndbaaRows
import Derived.Test.YtdbadicpbmndbaaChecked
import Derived.Test.YtdbadicpbmndbaaIf
import Derived.Test.YtdbadicpbmndbaaZ5
set_option linter.unusedVariables false
namespace Go.Proofs.Ytdbadicpbmndbaa.subsumeHolds
open Go Lg Go.ChangeShapes Go.WideShapes Go.ChangeAt Go.RowKit
theorem own : ownKnob Try.prog.godebug = none := by kernel_rfl
theorem laidOut : laidOutB Try.prog = true := by kernel_rfl
theorem tree : TreeTy Try.prog 47 45 3 := ⟨⟨_, Try.underlying47, rfl, ⟨_, _, rfl, rfl, rfl, rfl, rfl, rfl, rfl⟩⟩, Try.underlying45, Try.underlying3, by kernel_rfl, by kernel_rfl, by kernel_rfl, by kernel_rfl⟩
theorem layW : WdLay Try.prog 25 23 62 3 := ⟨⟨_, _, Try.underlying25, ⟨rfl, rfl⟩, rfl, rfl⟩, Try.underlying23, Try.underlying62, Try.underlying3, by kernel_rfl, by kernel_rfl, by kernel_rfl, by kernel_rfl, by kernel_rfl, by kernel_rfl⟩
theorem layL : LiLay Try.prog 49 47 45 3 4 := ⟨tree, ⟨_, _, _, Try.underlying49, ⟨rfl, rfl⟩, ⟨rfl, rfl⟩, rfl, rfl⟩, Try.underlying4, by kernel_rfl, by kernel_rfl⟩
theorem layC : ClLay Try.prog 26 49 47 45 3 4 := ⟨layL, Try.underlying26, by kernel_rfl⟩
theorem lay : SyLay Try.prog 22 79 9 3 4 := ⟨syTy, Try.underlying22, by kernel_rfl, by kernel_rfl, by kernel_rfl, by kernel_rfl, by kernel_rfl⟩
set_option maxRecDepth 100000 in
theorem lifted (os : Os) (started : os.Started) (H : Type) (enc : TypeId × Value → H) :
    ReturnsInHanded {} Try.checked os 3 .any (Rows.subsumeHoldsSpec.pre6 enc Try.prog Try.f3 Rows.subsumeHoldsRow.domain false) (Rows.subsumeHoldsSpec.post enc Try.prog Try.f3 false true false false) := by
  refine returnsInHanded_of_change_sized (C := Try.checked) own started (by kernel_rfl) Try.func3
    (ChangeSpec.witness6 (enc := enc) (C := Try.checked) false ⟨#[], #[.slice none 0 0, .agg #[.int .i64 0, .slice none 0 0], .slice none 0 0, .slice none 0 0], []⟩ 8 (by kernel_rfl) (by kernel_rfl) (by kernel_rfl) (by kernel_rfl)) ?_
  intro W base args ds gs before hval0 hW hcnd hsz0 _
  have hsz : (DataW.weightsEach Try.prog (Try.f3.params.toList ++ Rows.subsumeHoldsSpec.plain.varTypes Try.prog) (ds ++ gs)).all (· ≤ reachBytes) = true := hsz0
  have hval : ∀ (j : Nat) t v, Try.f3.params[j]? = some t → args[j]? = some v → Value.okWide Try.prog W .any base t v := hval0
  have hW' := hW
  obtain ⟨p, q, hA0, hV, rfl, hfz, hnd⟩ := hW
  have hA : DataW.TrodAll enc Try.prog W 0 (fun _ => true) true Try.f3.params.toList args.toList ds p := hA0
  rw [Try.params3] at hA hval hsz
  obtain ⟨v0, vs0, d0, ds0, p0, q0, hargs, rfl, rfl, h0, r0⟩ := trodAll_cons hA
  obtain ⟨v1, vs1, d1, ds1, p1, q1, rfl, rfl, rfl, h1, r1⟩ := trodAll_cons r0
  obtain ⟨v2, vs2, d2, ds2, p2, q2, rfl, rfl, rfl, h2, r2⟩ := trodAll_cons r1
  obtain ⟨v3, vs3, d3, ds3, p3, q3, rfl, rfl, rfl, h3, r3⟩ := trodAll_cons r2
  obtain ⟨rfl, rfl, rfl⟩ := trodAll_nil r3
  obtain rfl : args = #[v0, v1, v2, v3] := by cases args; simp_all
  obtain ⟨rfl, rfl⟩ := trodVars_none hV
  obtain ⟨x0, g0⟩ := openGv lay h0 (weights_at hsz 0 22 d0 rfl rfl) (okWide_slice Try.underlying22 (hval 0 22 v0 rfl rfl))
  have k0 := h0
  have lt0 : ∀ x ∈ p0, x.block < W.heap.size := by obtain ⟨m, hm⟩ := k0; exact DataW.trod_lt m _ _ _ hm
  obtain ⟨x1, g1⟩ := openWv layW h1 (weights_at hsz 1 25 d1 rfl rfl) (by obtain ⟨cs, h, _⟩ := okWide_struct Try.underlying25 (hval 1 25 v1 rfl rfl); exact ⟨cs, h⟩)
  have k1 := h1
  have lt1 : ∀ x ∈ p1, x.block < W.heap.size := by obtain ⟨m, hm⟩ := k1; exact DataW.trod_lt m _ _ _ hm
  obtain ⟨x2, g2⟩ := openCv layC h2 (weights_at hsz 2 26 d2 rfl rfl) (okWide_slice Try.underlying26 (hval 2 26 v2 rfl rfl))
  have k2 := h2
  have lt2 : ∀ x ∈ p2, x.block < W.heap.size := by obtain ⟨m, hm⟩ := k2; exact DataW.trod_lt m _ _ _ hm
  obtain ⟨x3, g3⟩ := openCv layC h3 (weights_at hsz 3 26 d3 rfl rfl) (okWide_slice Try.underlying26 (hval 3 26 v3 rfl rfl))
  have k3 := h3
  have lt3 : ∀ x ∈ p3, x.block < W.heap.size := by obtain ⟨m, hm⟩ := k3; exact DataW.trod_lt m _ _ _ hm
  refine ((SubsumeHolds_does g0 g1 g2 g3) W (hSat W)).mono fun e W' ⟨v, I', δ', he, hs', ht', hv, _⟩ => ?_
  subst hv
  subst he
  have bel : Below W.heap.size W W' := tr_below ht'
  exact ⟨_, rfl, _, _, _, [], _, [], hW', trodAll_mk1 (shut_bool Try.underlying4 _), (trodAll_cons_mk (Below.trod laidOut (by kernel_rfl) (of_decide_eq_true (by kernel_rfl)) k0 bel lt0) (trodAll_cons_mk (Below.trod laidOut (by kernel_rfl) (of_decide_eq_true (by kernel_rfl)) k1 bel lt1) (trodAll_cons_mk (Below.trod laidOut (by kernel_rfl) (of_decide_eq_true (by kernel_rfl)) k2 bel lt2) (trodAll_cons_mk (Below.trod laidOut (by kernel_rfl) (of_decide_eq_true (by kernel_rfl)) k3 bel lt3) trodAll_mk0)))), rfl, bel.frame _, fun h => by cases h⟩
theorem over : Rows.subsumeHoldsRow.holds Try.pinned (OpenSpec.ofChange Rows.subsumeHoldsSpec) :=
  OpenClaim.holds_of_wide 3 Try.f3 rfl rfl rfl rfl rfl rfl rfl ⟨rfl, rfl, rfl, rfl, rfl⟩ rfl rfl rfl rfl rfl (by kernel_rfl) Try.func3 (by kernel_rfl)
    (of_decide_eq_true (by kernel_rfl)) (by unfold Func.isWrapper; first | (rw [if_pos (by decide +kernel)]; kernel_rfl) | (rw [if_neg (by decide +kernel)]; exact ⟨rfl, rfl⟩))
    (fun os started H enc _ => lifted os started H enc)
end Go.Proofs.Ytdbadicpbmndbaa.subsumeHolds
namespace Go.Proofs.Ytdbadicpbmndbaa
/-- The row. -/
theorem subsumeHolds_holds : Rows.SubsumeHoldsSaid := subsumeHolds.over
#print axioms subsumeHolds_holds
end Go.Proofs.Ytdbadicpbmndbaa
