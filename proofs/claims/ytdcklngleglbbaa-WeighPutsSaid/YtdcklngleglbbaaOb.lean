/- What a row's reading of a substitution says of the heap; plain facts, no condition. -/
import Derived.Test.YtdcklngleglbbaaOg
import Derived.Test.YtdcklngleglbbaaSb
set_option linter.unusedVariables false
set_option linter.unusedSimpArgs false
namespace Go.Proofs.Ytdcklngleglbbaa
open Go Lg Go.ChangeShapes Go.WideShapes Go.ChangeAt Go.RowKit
variable {H : Type} {enc : TypeId × Value → H} {P : Program} {W : World} {spare : Nat → Bool} {held : Bool}
structure BiLay (P : Program) (tS tB tT tTs tI : TypeId) : Prop where
  tree : TreeTy P tT tTs tI
  str : ∃ f0 f1 : Field, P.underlying tB = some (.struct #[f0, f1]) ∧ f0.type = tI ∧ f0.offset = 0 ∧ f1.type = tT ∧ f1.offset = 1
  sl : P.underlying tS = some (.slice tB)
  cB : P.cellsOf tB = 3
  bB : P.bytesOf tB = 40
theorem openBi {tS tB tT tTs tI : TypeId} (ly : BiLay P tS tB tT tTs tI) {fuel : Nat} {cs : List Value} {x : DataW H × List MemPlace} (h : DataW.trod enc P W 0 spare held fuel tB cs = some x) (hw : (x.1.weights P tB).all (· ≤ reachBytes) = true) :
    ∃ (n : Int) (t : T) (s : Option Addr × Nat), cs = [.int .i64 n, .int .i64 t.head, .slice s.1 t.args.length s.2] ∧ InR n ∧ RepT (hImm W) (.agg #[.int .i64 t.head, .slice s.1 t.args.length s.2]) t := by
  obtain ⟨f0, f1, hs, e1, e2, g1, g2⟩ := ly.str
  obtain ⟨xs, n, rfl, hx, hcl, hxl, hxs⟩ := DataW.trod_struct hs h
  rw [ly.cB] at hcl
  obtain ⟨a, b, c, rfl⟩ : ∃ a b c, cs = [a, b, c] := by
    rcases cs with _ | ⟨a, _ | ⟨b, _ | ⟨c, _ | ⟨_, _⟩⟩⟩⟩ <;> simp at hcl
    exact ⟨a, b, c, rfl⟩
  have q0 := hxs 0 f0 rfl
  have q1 := hxs 1 f1 rfl
  have hx2 : xs.length = 2 := hxl
  obtain ⟨x0, x1, rfl⟩ : ∃ x0 x1, xs = [x0, x1] := by
    rcases xs with _ | ⟨u, _ | ⟨v, _ | ⟨_, _⟩⟩⟩ <;> simp at hx2
    exact ⟨u, v, rfl⟩
  rw [e1, e2, ly.tree.cI] at q0
  rw [g1, g2, ly.tree.cT] at q1
  simp only [List.drop_zero, List.drop_succ_cons, List.take_succ_cons, List.take_zero, List.getElem?_cons_zero, List.getElem?_cons_succ] at q0 q1
  subst hx
  have hts : (#[f0, f1] : Array Field).toList.map (·.type) = [tI, tT] := by simp [e1, g1]
  simp only [DataW.weights, hs, hts, List.map_cons, List.map_nil, DataW.weightsEach, List.all_append, Bool.and_eq_true] at hw
  obtain ⟨m, hm, _, hwf⟩ := DataW.trod_int ly.tree.int q0
  obtain ⟨s, t, hc, hr⟩ := openT ly.tree n _ x1.1 x1.2 q1 hw.2.1
  obtain ⟨sa, sc, hsh, _⟩ := hr.shape
  have hse : s = .slice sa t.args.length sc := by simpa using hsh
  subst hse
  simp only [List.cons.injEq, and_true] at hm hc
  obtain ⟨rfl, rfl⟩ := hc
  subst hm
  exact ⟨m, t, (sa, sc), rfl, wf_in hwf, hr⟩
theorem openBv {tS tB tT tTs tI : TypeId} (ly : BiLay P tS tB tT tTs tI) {v : Value} {d : DataW H} {ps : List MemPlace} (h : DataW.Trod enc P W 0 spare held tS v d ps) (hw : (d.weights P tS).all (· ≤ reachBytes) = true) (hv : ∃ a len cap, v = .slice a len cap) : ∃ bs, RepB (hImm W) v bs := by
  obtain ⟨a0, len0, cap0, rfl⟩ := hv
  obtain ⟨fuel, h1⟩ := h
  rcases DataW.trod_slice ly.sl h1 with ⟨hcs, _⟩ | ⟨a, len, cap, elems, rest, n', rfl, hcs, hd, _, hl, hm, hlen, hel, hsp, _⟩
  · simp [Value.cells] at hcs
    obtain ⟨rfl, rfl, rfl⟩ := hcs
    exact ⟨[], none, 0, fun _ => (none, 0), [], Nat.le_refl _, by simp, fun i hi => by simp at hi, fun i hi => by simp at hi, fun i hi => by simp at hi⟩
  · simp [Value.cells] at hcs
    obtain ⟨rfl, rfl, rfl⟩ := hcs
    obtain ⟨rfl, _⟩ := Prod.mk.inj hd
    simp only [DataW.weights, ly.sl, ly.bB, List.all_cons, List.all_append, Bool.and_eq_true, decide_eq_true_eq] at hw
    obtain ⟨hwl, hwe, _⟩ := hw
    have hwe' := weights_all hwe
    have hrb : reachBytes = 140737488351232 := rfl
    simp only [List.length_map, hlen] at hwl
    have hall : ∀ i, i < len0 → ∃ b : Bi × (Option Addr × Nat), At (hImm W) (some a) (i * 3) [.int .i64 b.1.1, .int .i64 b.1.2.head, .slice b.2.1 b.1.2.args.length b.2.2] ∧ InR b.1.1 ∧ RepT (hImm W) (.agg #[.int .i64 b.1.2.head, .slice b.2.1 b.1.2.args.length b.2.2]) b.1.2 := by
      intro i hi
      have hy := hel i hi
      rw [ly.cB] at hy
      have hie : elems[i]? = some elems[i] := List.getElem?_eq_getElem (by omega)
      rw [hie, Option.bind_eq_some_iff] at hy
      obtain ⟨cs, hcs, htr⟩ := hy
      obtain ⟨_, hca⟩ := cells_all hcs
      obtain ⟨n, t, s, rfl, hn, hr⟩ := openBi ly htr (hwe' _ (List.mem_map.2 ⟨_, List.getElem_mem (by omega), rfl⟩))
      refine ⟨((n, t), s), fun j v hj => ?_, hn, hr⟩
      have := hca j v hj
      rw [add_add] at this
      exact this
    obtain ⟨bl, hbl, hb2⟩ := pick_list hall
    subst hbl
    have key := RepB.mk (I := hImm W) (some a) cap0 (fun i => (bl.getD i ((0, zeroT), (none, 0))).2) (bl.map (·.1)) (by simpa using hl) (by simp; omega) (fun i hi => by
      have hi' : i < bl.length := by simpa using hi
      have := (hb2 i hi').1
      simpa [List.getElem?_eq_getElem hi'] using this) (fun i hi => by
      have hi' : i < bl.length := by simpa using hi
      simpa using (hb2 i hi').2.1) (fun i hi => by
      have hi' : i < bl.length := by simpa using hi
      have := (hb2 i hi').2.2
      simpa [List.getElem?_eq_getElem hi'] using this)
    rw [List.length_map] at key
    exact ⟨_, key⟩
end Go.Proofs.Ytdcklngleglbbaa
