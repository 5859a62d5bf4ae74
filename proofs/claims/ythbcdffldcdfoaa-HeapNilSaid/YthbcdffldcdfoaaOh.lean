/- What a row's reading of items, and of steps, says of the heap; plain facts, no condition. -/
import Derived.Test.YthbcdffldcdfoaaOp
import Derived.Test.YthbcdffldcdfoaaHb
set_option linter.unusedVariables false
set_option linter.unusedSimpArgs false
namespace Go.Proofs.Ythbcdffldcdfoaa
open Go Lg Go.ChangeShapes Go.WideShapes Go.ChangeAt Go.RowKit
variable {H : Type} {enc : TypeId × Value → H} {P : Program} {W : World} {spare : Nat → Bool} {held : Bool}
theorem cells_all2 {a : Addr} {n : Nat} {cs : List Value} (h : W.cells? 0 a n = some cs) : cs.length = n ∧ ∀ j v, cs[j]? = some v → W.cell? (a.add j) = some v := by
  simp only [World.cells?, Nat.zero_le, if_true] at h
  have key : ∀ (l : List Nat) (cs : List Value), l.mapM (fun i => W.cell? (a.add i)) = some cs → cs.length = l.length ∧ ∀ (j : Nat) (v : Value), cs[j]? = some v → ∃ i : Nat, l[j]? = some i ∧ W.cell? (a.add i) = some v := by
    intro l
    induction l with
    | nil => intro cs h; simp at h; subst h; exact ⟨rfl, fun j v h => by simp at h⟩
    | cons i l ih =>
      intro cs h
      simp only [List.mapM_cons, Option.bind_eq_bind, Option.bind_eq_some_iff, Option.pure_def, Option.some.injEq] at h
      obtain ⟨u, hu, r, hr, rfl⟩ := h
      obtain ⟨h1, h2⟩ := ih r hr
      refine ⟨by simp [h1], fun j v hj => ?_⟩
      cases j with
      | zero => simp at hj; subst hj; exact ⟨i, rfl, hu⟩
      | succ j => simpa using h2 j v (by simpa using hj)
  obtain ⟨h1, h2⟩ := key _ _ h
  refine ⟨by simpa using h1, fun j v hj => ?_⟩
  obtain ⟨i, hi, hc⟩ := h2 j v hj
  have hlt : j < n := by have := (List.getElem?_eq_some_iff.1 hi).1; simpa using this
  rw [List.getElem?_range hlt] at hi
  cases hi
  exact hc
/-- a struct of so many numbers -/
structure NLay (P : Program) (tN tI : TypeId) (n : Nat) : Prop where
  str : ∃ fs : Array Field, P.underlying tN = some (.struct fs) ∧ fs.size = n ∧ ∀ (i : Nat) (f : Field), fs[i]? = some f → f.type = tI ∧ f.offset = i
  int : P.underlying tI = some (.int .i64)
  cN : P.cellsOf tN = n
  cI : P.cellsOf tI = 1
theorem openN {tN tI : TypeId} {n : Nat} (ly : NLay P tN tI n) {fuel : Nat} {cs : List Value} {x : DataW H × List MemPlace} (h : DataW.trod enc P W 0 spare held fuel tN cs = some x) :
    ∃ ns : List Int, ns.length = n ∧ cs = ns.map (Value.int .i64) := by
  obtain ⟨fs, hs, hsz, hf⟩ := ly.str
  obtain ⟨xs, m, rfl, hx, hcl, hxl, hxs⟩ := DataW.trod_struct hs h
  rw [ly.cN] at hcl
  have key : ∀ i, i < n → ∃ k : Int, cs[i]? = some (.int .i64 k) := by
    intro i hi
    have hfi : fs[i]? = some (fs[i]'(by omega)) := Array.getElem?_eq_getElem (by omega)
    obtain ⟨h1, h2⟩ := hf i _ hfi
    have q := hxs i _ hfi
    rw [h1, h2, ly.cI] at q
    have hxi : i < xs.length := by rw [hxl]; omega
    rw [List.getElem?_eq_getElem hxi] at q
    obtain ⟨k, hk, _⟩ := DataW.trod_int ly.int q
    refine ⟨k, ?_⟩
    have := congrArg (fun l => l[0]?) hk
    simp only [List.getElem?_take, List.getElem?_drop] at this
    simpa using this
  obtain ⟨ns, hl, hns⟩ := pick_list key
  refine ⟨ns, hl, ?_⟩
  apply List.ext_getElem?
  intro i
  by_cases hi : i < n
  · rw [hns i (by omega), List.getElem?_map, List.getElem?_eq_getElem (by omega)]; rfl
  · rw [List.getElem?_eq_none (by omega), List.getElem?_eq_none (by simp; omega)]
theorem openItv {tN tI : TypeId} (ly : NLay P tN tI 2) {v : Value} {d : DataW H} {ps : List MemPlace} (h : DataW.Trod enc P W 0 spare held tN v d ps) (hv : ∃ cs, v = .agg cs) : ∃ x : Int × Int, v = .agg #[.int .i64 x.1, .int .i64 x.2] := by
  obtain ⟨cs, rfl⟩ := hv
  obtain ⟨fuel, h1⟩ := h
  obtain ⟨ns, hl, hc⟩ := openN ly h1
  obtain ⟨a, b, rfl⟩ : ∃ a b, ns = [a, b] := by
    rcases ns with _ | ⟨a, _ | ⟨b, _ | ⟨_, _⟩⟩⟩ <;> simp at hl
    exact ⟨a, b, rfl⟩
  refine ⟨(a, b), ?_⟩
  have : cs.toList = [.int .i64 a, .int .i64 b] := by simpa [Value.cells] using hc
  cases cs; simp at this; subst this; rfl
/-- a row of structs of so many numbers each, that is only read -/
def RepN (I : Imm) (v : Value) (n : Nat) (rs : List (List Int)) : Prop := ∃ (A : Option Addr) (c : Nat), v = .slice A rs.length c ∧ rs.length ≤ c ∧ rs.length ≤ 17592186044416 ∧ ∀ i (h : i < rs.length), rs[i].length = n ∧ At I A (i * n) (rs[i].map (Value.int .i64))
theorem openNs {tS tN tI : TypeId} {n b : Nat} (ly : NLay P tN tI n) (sl : P.underlying tS = some (.slice tN)) (hB : P.bytesOf tN = b) (hb : 8 ≤ b) {v : Value} {d : DataW H} {ps : List MemPlace} (h : DataW.Trod enc P W 0 spare held tS v d ps) (hw : (d.weights P tS).all (· ≤ reachBytes) = true) (hv : ∃ a l c, v = .slice a l c) :
    ∃ rs, RepN (hImm W) v n rs := by
  obtain ⟨a0, len0, cap0, rfl⟩ := hv
  obtain ⟨fuel, h1⟩ := h
  rcases DataW.trod_slice sl h1 with ⟨hcs, _⟩ | ⟨a, len, cap, elems, rest, n', rfl, hcs, hd, _, hl, hm, hlen, hel, hsp, _⟩
  · simp [Value.cells] at hcs
    obtain ⟨rfl, rfl, rfl⟩ := hcs
    exact ⟨[], none, 0, rfl, Nat.le_refl _, by simp, fun i hi => by simp at hi⟩
  · simp [Value.cells] at hcs
    obtain ⟨rfl, rfl, rfl⟩ := hcs
    obtain ⟨rfl, _⟩ := Prod.mk.inj hd
    simp only [DataW.weights, sl, hB, List.all_cons, List.all_append, Bool.and_eq_true, decide_eq_true_eq] at hw
    obtain ⟨hwl, _⟩ := hw
    have hrb : reachBytes = 140737488351232 := rfl
    simp only [List.length_map, hlen] at hwl
    have hle : len0 ≤ 17592186044416 := by
      have h1 : len0 * 8 ≤ (len0 + rest.length) * b := Nat.mul_le_mul (Nat.le_add_right _ _) hb
      omega
    have hall : ∀ i, i < len0 → ∃ ns : List Int, ns.length = n ∧ At (hImm W) (some a) (i * n) (ns.map (Value.int .i64)) := by
      intro i hi
      have hy := hel i hi
      rw [ly.cN] at hy
      have hie : elems[i]? = some elems[i] := List.getElem?_eq_getElem (by omega)
      rw [hie, Option.bind_eq_some_iff] at hy
      obtain ⟨cs, hcs, htr⟩ := hy
      obtain ⟨_, hca⟩ := cells_all2 hcs
      obtain ⟨ns, hns, rfl⟩ := openN ly htr
      refine ⟨ns, hns, fun j v hj => ?_⟩
      have := hca j v hj
      rw [add_add] at this
      exact this
    obtain ⟨bl, hbl, hb2⟩ := pick_list hall
    subst hbl
    exact ⟨bl, some a, cap0, rfl, by simpa using hl, hle, fun i hi => hb2 i hi⟩
end Go.Proofs.Ythbcdffldcdfoaa
