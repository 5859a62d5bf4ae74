/- What a row's reading of a slice of terms says of the heap; plain facts, no condition. -/
import Derived.Test.YtdcklngleglbbaaOp
set_option linter.unusedVariables false
set_option linter.unusedSimpArgs false
namespace Go.Proofs.Ytdcklngleglbbaa
open Go Lg Go.ChangeShapes Go.WideShapes Go.ChangeAt Go.RowKit
variable {H : Type} {enc : TypeId × Value → H} {P : Program} {W : World} {spare : Nat → Bool} {held : Bool}
theorem openSv {tT tS tI : TypeId} (ty : TreeTy P tT tS tI) {v : Value} {d : DataW H} {ps : List MemPlace} (h : DataW.Trod enc P W 0 spare held tS v d ps) (hw : (d.weights P tS).all (· ≤ reachBytes) = true) (hv : ∃ a len cap, v = .slice a len cap) : ∃ ts, RepS (hImm W) v ts := by
  obtain ⟨a0, len0, cap0, rfl⟩ := hv
  obtain ⟨fuel, h1⟩ := h
  rcases DataW.trod_slice ty.sl h1 with ⟨hcs, _⟩ | ⟨a, len, cap, elems, rest, n', rfl, hcs, hd, _, hl, hm, hlen, hel, hsp, _⟩
  · simp [Value.cells] at hcs
    obtain ⟨rfl, rfl, rfl⟩ := hcs
    exact ⟨[], RepS.nil _⟩
  · simp [Value.cells] at hcs
    obtain ⟨rfl, rfl, rfl⟩ := hcs
    obtain ⟨rfl, _⟩ := Prod.mk.inj hd
    simp only [DataW.weights, ty.sl, ty.bT, List.all_cons, List.all_append, Bool.and_eq_true, decide_eq_true_eq] at hw
    obtain ⟨hwl, hwe, _⟩ := hw
    have hwe' := weights_all hwe
    have hrb : reachBytes = 140737488351232 := rfl
    simp only [List.length_map, hlen] at hwl
    have hall : ∀ i, i < len0 → ∃ t : T, ∃ s : Option Addr × Nat, At (hImm W) (some a) (i * 2) [.int .i64 t.head, .slice s.1 t.args.length s.2] ∧ RepT (hImm W) (.agg #[.int .i64 t.head, .slice s.1 t.args.length s.2]) t := by
      intro i hi
      have hy := hel i hi
      rw [ty.cT] at hy
      have hie : elems[i]? = some elems[i] := List.getElem?_eq_getElem (by omega)
      rw [hie, Option.bind_eq_some_iff] at hy
      obtain ⟨cs, hcs, htr⟩ := hy
      obtain ⟨u, v, rfl, hu, hv⟩ := cells_two hcs
      obtain ⟨s, t, he, hr⟩ := openT ty n' _ elems[i].1 elems[i].2 htr (hwe' _ (List.mem_map.2 ⟨_, List.getElem_mem (by omega), rfl⟩))
      obtain ⟨sa, sc, hsh, _⟩ := hr.shape
      have hs : s = .slice sa t.args.length sc := by simpa using hsh
      subst hs
      simp only [List.cons.injEq, and_true] at he
      obtain ⟨rfl, rfl⟩ := he
      refine ⟨t, (sa, sc), fun j x hj => ?_, hr⟩
      rcases j with _ | _ | j
      · simp at hj; subst hj; exact hu
      · simp at hj; subst hj
        show W.cell? (a.add (i * 2 + 1)) = _
        rw [← add_add]; exact hv
      · simp at hj
    obtain ⟨ts, htl, hts2⟩ := pick_list hall
    have hss : ∃ ss : Nat → Option Addr × Nat, ∀ i (hi : i < ts.length), At (hImm W) (some a) (i * 2) [.int .i64 ts[i].head, .slice (ss i).1 ts[i].args.length (ss i).2] ∧ RepT (hImm W) (.agg #[.int .i64 ts[i].head, .slice (ss i).1 ts[i].args.length (ss i).2]) ts[i] := by
      classical
      exact ⟨fun i => if hi : i < ts.length then (hts2 i hi).choose else (none, 0), fun i hi => by simp only [dif_pos hi]; exact (hts2 i hi).choose_spec⟩
    obtain ⟨ss, hss⟩ := hss
    subst htl
    exact ⟨ts, RepT.args (RepT.intro (h := 0) ss (by unfold InR; omega) hl (by omega) (fun i hi => (hss i hi).1) (fun i hi => (hss i hi).2))⟩
end Go.Proofs.Ytdcklngleglbbaa
