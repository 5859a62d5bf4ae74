/- What a row's reading of a world says of the heap; plain facts, no condition. -/
import Derived.Test.YtegceppoioeeaaaNl
import Derived.Test.YtegceppoioeeaaaZ4
set_option linter.unusedVariables false
set_option linter.unusedSimpArgs false
namespace Go.Proofs.Ytegceppoioeeaaa
open Go Lg Go.ChangeShapes Go.WideShapes Go.ChangeAt Go.RowKit
variable {H : Type} {enc : TypeId × Value → H} {P : Program} {W : World} {spare : Nat → Bool} {held : Bool}
structure WdLay (P : Program) (tW tR tIs tI : TypeId) : Prop where
  str : ∃ f0 f1 : Field, P.underlying tW = some (.struct #[f0, f1]) ∧ (f0.type = tI ∧ f0.offset = 0) ∧ f1.type = tR ∧ f1.offset = 1
  slR : P.underlying tR = some (.slice tIs)
  slI : P.underlying tIs = some (.slice tI)
  int : P.underlying tI = some (.int .i64)
  cW : P.cellsOf tW = 2
  cR : P.cellsOf tR = 1
  cIs : P.cellsOf tIs = 1
  cI : P.cellsOf tI = 1
  bIs : P.bytesOf tIs = 24
  bI : P.bytesOf tI = 8
theorem openRs {tR tIs tI : TypeId} (slR : P.underlying tR = some (.slice tIs)) (slI : P.underlying tIs = some (.slice tI)) (int : P.underlying tI = some (.int .i64)) (cIs : P.cellsOf tIs = 1) (cI : P.cellsOf tI = 1) (bIs : P.bytesOf tIs = 24) (bI : P.bytesOf tI = 8)
    {fuel : Nat} {v : Value} {x : DataW H × List MemPlace} (h : DataW.trod enc P W 0 spare held fuel tR [v] = some x) (hw : (x.1.weights P tR).all (· ≤ reachBytes) = true) :
    ∃ (A : Option Addr) (c : Nat) (ps : List (List Int)) (ys : List Value), v = .slice A ps.length c ∧ ps.length ≤ 6000000000000 ∧ Cells (hImm W) A ys ∧ RowP (hImm W) ys ps := by
  rcases DataW.trod_slice slR h with ⟨hcs, _⟩ | ⟨a, len, cap, elems, rest, n', rfl, hcs, hd, _, hl, hm, hlen, hel, hsp, _⟩
  · simp at hcs
    subst hcs
    exact ⟨none, 0, [], [], rfl, by simp, fun j v hj => by simp at hj, RowP.nil _⟩
  · simp at hcs
    subst hcs
    subst hd
    simp only [DataW.weights, slR, bIs, List.all_cons, List.all_append, Bool.and_eq_true, decide_eq_true_eq] at hw
    obtain ⟨hwl, hwe, _⟩ := hw
    have hwe' := weights_all hwe
    have hrb : reachBytes = 140737488351232 := rfl
    simp only [List.length_map, hlen] at hwl
    have hall : ∀ i, i < len → ∃ b : Value × List Int, W.cell? (a.add i) = some b.1 ∧ RInts (hImm W) b.1 b.2 := by
      intro i hi
      have hy := hel i hi
      rw [cIs] at hy
      have hie : elems[i]? = some elems[i] := List.getElem?_eq_getElem (by omega)
      rw [hie, Option.bind_eq_some_iff] at hy
      obtain ⟨cs, hcs, htr⟩ := hy
      obtain ⟨hcl, hca⟩ := cells_all hcs
      obtain ⟨u, rfl⟩ : ∃ u, cs = [u] := by
        rcases cs with _ | ⟨u, _ | ⟨_, _⟩⟩ <;> simp at hcl
        exact ⟨u, rfl⟩
      have hc0 := hca 0 u rfl
      rw [add_add, Nat.mul_one, Nat.add_zero] at hc0
      have hu : ∃ a l c, u = .slice a l c := by
        rcases DataW.trod_slice slI htr with ⟨hq, _⟩ | ⟨a, l, c, _, _, _, _, hq, _⟩
        · exact ⟨none, 0, 0, by simpa using hq⟩
        · exact ⟨some a, l, c, by simpa using hq⟩
      obtain ⟨ua, ul, uc, rfl⟩ := hu
      obtain ⟨ys, hys⟩ := openI (d := elems[i].1) (ps := elems[i].2) slI int cI bI ⟨_, htr⟩ (hwe' _ (List.mem_map.2 ⟨_, List.getElem_mem (by omega), rfl⟩))
      exact ⟨(_, ys), hc0, hys⟩
    obtain ⟨bl, hbl, hb2⟩ := pick_list hall
    subst hbl
    refine ⟨some a, cap, bl.map (·.2), bl.map (·.1), by simp, by simp; omega, fun j v hj => ?_, ⟨by simp, fun i hi => ⟨(bl[i]'(by simpa using hi)).1, by simp [show i < bl.length by simpa using hi], by simpa using (hb2 i (by simpa using hi)).2⟩⟩⟩
    · (
      rw [List.getElem?_map] at hj
      cases hq : bl[j]? with
      | none => rw [hq] at hj; simp at hj
      | some b =>
        rw [hq] at hj; simp at hj; subst hj
        obtain ⟨hlt, rfl⟩ := List.getElem?_eq_some_iff.1 hq
        exact (hb2 j hlt).1)
theorem openWv {tW tR tIs tI : TypeId} (ly : WdLay P tW tR tIs tI) {v : Value} {d : DataW H} {ps : List MemPlace} (h : DataW.Trod enc P W 0 spare held tW v d ps) (hw : (d.weights P tW).all (· ≤ reachBytes) = true) (hv : ∃ cs, v = .agg cs) : ∃ w, RepW (hImm W) v w := by
  obtain ⟨cs, rfl⟩ := hv
  obtain ⟨fuel, h1⟩ := h
  obtain ⟨f0, f1, hs, ⟨e1, e2⟩, g1, g2⟩ := ly.str
  obtain ⟨xs, n, rfl, hx, hcl, hxl, hxs⟩ := DataW.trod_struct hs h1
  rw [ly.cW] at hcl
  obtain ⟨a, b, hcsl⟩ : ∃ a b, (Value.agg cs).cells.toList = [a, b] := by
    generalize (Value.agg cs).cells.toList = l at hcl
    rcases l with _ | ⟨a, _ | ⟨b, _ | ⟨_, _⟩⟩⟩ <;> simp at hcl
    exact ⟨a, b, rfl⟩
  have q0 := hxs 0 f0 rfl
  have q1 := hxs 1 f1 rfl
  have hx2 : xs.length = 2 := hxl
  obtain ⟨x0, x1, rfl⟩ : ∃ x0 x1, xs = [x0, x1] := by
    rcases xs with _ | ⟨u, _ | ⟨v, _ | ⟨_, _⟩⟩⟩ <;> simp at hx2
    exact ⟨u, v, rfl⟩
  rw [e1, e2, ly.cI, hcsl] at q0
  rw [g1, g2, ly.cR, hcsl] at q1
  simp only [List.drop_zero, List.drop_succ_cons, List.take_succ_cons, List.take_zero, List.getElem?_cons_zero, List.getElem?_cons_succ] at q0 q1
  have hd : d = _ := (Prod.mk.inj hx).1
  subst hd
  have hts : (#[f0, f1] : Array Field).toList.map (·.type) = [tI, tR] := by simp [e1, g1]
  simp only [DataW.weights, hs, hts, List.map_cons, List.map_nil, DataW.weightsEach, List.all_append, Bool.and_eq_true] at hw
  obtain ⟨m, hm, _, hwf⟩ := DataW.trod_int ly.int q0
  obtain ⟨A, c, rs, ys, hb, hrl, hrc, hr⟩ := openRs ly.slR ly.slI ly.int ly.cIs ly.cI ly.bIs ly.bI q1 hw.2.1
  simp only [List.cons.injEq, and_true] at hm
  subst hm; subst hb
  refine ⟨⟨m, rs⟩, wf_in hwf, A, c, ys, ?_, hrl, hrc, hr⟩
  have : cs.toList = [.int .i64 m, .slice A rs.length c] := by simpa [Value.cells] using hcsl
  cases cs; simp at this; subst this; rfl
end Go.Proofs.Ytegceppoioeeaaa
