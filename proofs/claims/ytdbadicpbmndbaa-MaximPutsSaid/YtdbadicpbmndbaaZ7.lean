/- Own texts, one behind the other: rules of a small program logic, walks through the program's functions, plain facts. No condition. -/
import Derived.Test.YtdbadicpbmndbaaZ6
/- What a row's reading of a substitution says of the heap; plain facts, no condition. -/
set_option linter.unusedVariables false
set_option linter.unusedSimpArgs false
namespace Go.Proofs.Ytdbadicpbmndbaa
open Go Lg Go.ChangeShapes Go.WideShapes Go.ChangeAt Go.RowKit
variable {H : Type} {enc : TypeId × Value → H} {P : Program} {W : World} {spare : Nat → Bool} {held : Bool}
structure BiLay (P : Program) (tS tB tT tTs tI : TypeId) : Prop where
  tree : TreeTy P tT tTs tI
  str : ∃ f0 f1 : Field, P.underlying tB = some (.struct #[f0, f1]) ∧ f0.type = tI ∧ f0.offset = 0 ∧ f1.type = tT ∧ f1.offset = 1
  sl : P.underlying tS = some (.slice tB)
  cB : P.cellsOf tB = 3
  bB : P.bytesOf tB = 40
theorem openBi {tS tB tT tTs tI : TypeId} (ly : BiLay P tS tB tT tTs tI) {fuel : Nat} {cs : List Value} {x : DataW H × List MemPlace} (h : DataW.trod enc P W 0 spare held fuel tB cs = some x) (hw : (x.1.weights P tB).all (· ≤ reachBytes) = true) :
    ∃ (n : Int) (t : T) (s : Option Addr × Nat), cs = [.int .i64 n, .int .i64 t.head, .slice s.1 t.args.length s.2] ∧ InR n ∧ RepT (hImm W) (.agg #[.int .i64 t.head, .slice s.1 t.args.length s.2]) t := by
  obtain ⟨f0, f1, hs, e1, e2, g1, g2⟩ := ly.str
  obtain ⟨xs, n, rfl, hx, hcl, hxl, hxs⟩ := DataW.trod_struct hs h
  rw [ly.cB] at hcl
  obtain ⟨a, b, c, rfl⟩ : ∃ a b c, cs = [a, b, c] := by
    rcases cs with _ | ⟨a, _ | ⟨b, _ | ⟨c, _ | ⟨_, _⟩⟩⟩⟩ <;> simp at hcl
    exact ⟨a, b, c, rfl⟩
  have q0 := hxs 0 f0 rfl
  have q1 := hxs 1 f1 rfl
  have hx2 : xs.length = 2 := hxl
  obtain ⟨x0, x1, rfl⟩ : ∃ x0 x1, xs = [x0, x1] := by
    rcases xs with _ | ⟨u, _ | ⟨v, _ | ⟨_, _⟩⟩⟩ <;> simp at hx2
    exact ⟨u, v, rfl⟩
  rw [e1, e2, ly.tree.cI] at q0
  rw [g1, g2, ly.tree.cT] at q1
  simp only [List.drop_zero, List.drop_succ_cons, List.take_succ_cons, List.take_zero, List.getElem?_cons_zero, List.getElem?_cons_succ] at q0 q1
  subst hx
  have hts : (#[f0, f1] : Array Field).toList.map (·.type) = [tI, tT] := by simp [e1, g1]
  simp only [DataW.weights, hs, hts, List.map_cons, List.map_nil, DataW.weightsEach, List.all_append, Bool.and_eq_true] at hw
  obtain ⟨m, hm, _, hwf⟩ := DataW.trod_int ly.tree.int q0
  obtain ⟨s, t, hc, hr⟩ := openT ly.tree n _ x1.1 x1.2 q1 hw.2.1
  obtain ⟨sa, sc, hsh, _⟩ := hr.shape
  have hse : s = .slice sa t.args.length sc := by simpa using hsh
  subst hse
  simp only [List.cons.injEq, and_true] at hm hc
  obtain ⟨rfl, rfl⟩ := hc
  subst hm
  exact ⟨m, t, (sa, sc), rfl, wf_in hwf, hr⟩
theorem openBv {tS tB tT tTs tI : TypeId} (ly : BiLay P tS tB tT tTs tI) {v : Value} {d : DataW H} {ps : List MemPlace} (h : DataW.Trod enc P W 0 spare held tS v d ps) (hw : (d.weights P tS).all (· ≤ reachBytes) = true) (hv : ∃ a len cap, v = .slice a len cap) : ∃ bs, RepB (hImm W) v bs := by
  obtain ⟨a0, len0, cap0, rfl⟩ := hv
  obtain ⟨fuel, h1⟩ := h
  rcases DataW.trod_slice ly.sl h1 with ⟨hcs, _⟩ | ⟨a, len, cap, elems, rest, n', rfl, hcs, hd, _, hl, hm, hlen, hel, hsp, _⟩
  · simp [Value.cells] at hcs
    obtain ⟨rfl, rfl, rfl⟩ := hcs
    exact ⟨[], none, 0, fun _ => (none, 0), [], Nat.le_refl _, by simp, fun i hi => by simp at hi, fun i hi => by simp at hi, fun i hi => by simp at hi⟩
  · simp [Value.cells] at hcs
    obtain ⟨rfl, rfl, rfl⟩ := hcs
    obtain ⟨rfl, _⟩ := Prod.mk.inj hd
    simp only [DataW.weights, ly.sl, ly.bB, List.all_cons, List.all_append, Bool.and_eq_true, decide_eq_true_eq] at hw
    obtain ⟨hwl, hwe, _⟩ := hw
    have hwe' := weights_all hwe
    have hrb : reachBytes = 140737488351232 := rfl
    simp only [List.length_map, hlen] at hwl
    have hall : ∀ i, i < len0 → ∃ b : Bi × (Option Addr × Nat), At (hImm W) (some a) (i * 3) [.int .i64 b.1.1, .int .i64 b.1.2.head, .slice b.2.1 b.1.2.args.length b.2.2] ∧ InR b.1.1 ∧ RepT (hImm W) (.agg #[.int .i64 b.1.2.head, .slice b.2.1 b.1.2.args.length b.2.2]) b.1.2 := by
      intro i hi
      have hy := hel i hi
      rw [ly.cB] at hy
      have hie : elems[i]? = some elems[i] := List.getElem?_eq_getElem (by omega)
      rw [hie, Option.bind_eq_some_iff] at hy
      obtain ⟨cs, hcs, htr⟩ := hy
      obtain ⟨_, hca⟩ := cells_all hcs
      obtain ⟨n, t, s, rfl, hn, hr⟩ := openBi ly htr (hwe' _ (List.mem_map.2 ⟨_, List.getElem_mem (by omega), rfl⟩))
      refine ⟨((n, t), s), fun j v hj => ?_, hn, hr⟩
      have := hca j v hj
      rw [add_add] at this
      exact this
    obtain ⟨bl, hbl, hb2⟩ := pick_list hall
    subst hbl
    have key := RepB.mk (I := hImm W) (some a) cap0 (fun i => (bl.getD i ((0, zeroT), (none, 0))).2) (bl.map (·.1)) (by simpa using hl) (by simp; omega) (fun i hi => by
      have hi' : i < bl.length := by simpa using hi
      have := (hb2 i hi').1
      simpa [List.getElem?_eq_getElem hi'] using this) (fun i hi => by
      have hi' : i < bl.length := by simpa using hi
      simpa using (hb2 i hi').2.1) (fun i hi => by
      have hi' : i < bl.length := by simpa using hi
      have := (hb2 i hi').2.2
      simpa [List.getElem?_eq_getElem hi'] using this)
    rw [List.length_map] at key
    exact ⟨_, key⟩
end Go.Proofs.Ytdbadicpbmndbaa
/- What a row's reading of a literal says of the heap; plain facts, no condition. -/
set_option linter.unusedVariables false
set_option linter.unusedSimpArgs false
namespace Go.Proofs.Ytdbadicpbmndbaa
open Go Lg Go.ChangeShapes Go.WideShapes Go.ChangeAt Go.RowKit
variable {H : Type} {enc : TypeId × Value → H} {P : Program} {W : World} {spare : Nat → Bool} {held : Bool}
structure LiLay (P : Program) (tL tT tTs tI tb : TypeId) : Prop where
  tree : TreeTy P tT tTs tI
  str : ∃ f0 f1 f2 : Field, P.underlying tL = some (.struct #[f0, f1, f2]) ∧ (f0.type = tb ∧ f0.offset = 0) ∧ (f1.type = tT ∧ f1.offset = 1) ∧ f2.type = tT ∧ f2.offset = 3
  ub : P.underlying tb = some .bool
  cL : P.cellsOf tL = 5
  cb : P.cellsOf tb = 1
theorem openLi {tL tT tTs tI tb : TypeId} (ly : LiLay P tL tT tTs tI tb) {fuel : Nat} {cs : List Value} {x : DataW H × List MemPlace} (h : DataW.trod enc P W 0 spare held fuel tL cs = some x) (hw : (x.1.weights P tL).all (· ≤ reachBytes) = true) :
    ∃ (y : Li) (la ra : Option Addr) (lc rc : Nat), cs = [.bool y.neg, .int .i64 y.l.head, .slice la y.l.args.length lc, .int .i64 y.r.head, .slice ra y.r.args.length rc] ∧ RepT (hImm W) (.agg #[.int .i64 y.l.head, .slice la y.l.args.length lc]) y.l ∧ RepT (hImm W) (.agg #[.int .i64 y.r.head, .slice ra y.r.args.length rc]) y.r := by
  obtain ⟨f0, f1, f2, hs, ⟨e1, e2⟩, ⟨g1, g2⟩, k1, k2⟩ := ly.str
  obtain ⟨xs, n, rfl, hx, hcl, hxl, hxs⟩ := DataW.trod_struct hs h
  rw [ly.cL] at hcl
  obtain ⟨a, b, c, d, e, rfl⟩ : ∃ a b c d e, cs = [a, b, c, d, e] := by
    rcases cs with _ | ⟨a, _ | ⟨b, _ | ⟨c, _ | ⟨d, _ | ⟨e, _ | ⟨_, _⟩⟩⟩⟩⟩⟩ <;> simp at hcl
    exact ⟨a, b, c, d, e, rfl⟩
  have q0 := hxs 0 f0 rfl
  have q1 := hxs 1 f1 rfl
  have q2 := hxs 2 f2 rfl
  have hx3 : xs.length = 3 := hxl
  obtain ⟨x0, x1, x2, rfl⟩ : ∃ x0 x1 x2, xs = [x0, x1, x2] := by
    rcases xs with _ | ⟨u, _ | ⟨v, _ | ⟨w, _ | ⟨_, _⟩⟩⟩⟩ <;> simp at hx3
    exact ⟨u, v, w, rfl⟩
  rw [e1, e2, ly.cb] at q0
  rw [g1, g2, ly.tree.cT] at q1
  rw [k1, k2, ly.tree.cT] at q2
  simp only [List.drop_zero, List.drop_succ_cons, List.take_succ_cons, List.take_zero, List.getElem?_cons_zero, List.getElem?_cons_succ] at q0 q1 q2
  subst hx
  have hts : (#[f0, f1, f2] : Array Field).toList.map (·.type) = [tb, tT, tT] := by simp [e1, g1, k1]
  simp only [DataW.weights, hs, hts, List.map_cons, List.map_nil, DataW.weightsEach, List.all_append, Bool.and_eq_true] at hw
  obtain ⟨m, hm, _⟩ := DataW.trod_bool ly.ub q0
  obtain ⟨s, t, hc, hr⟩ := openT ly.tree n _ x1.1 x1.2 q1 hw.2.1
  obtain ⟨s', t', hc', hr'⟩ := openT ly.tree n _ x2.1 x2.2 q2 hw.2.2.1
  obtain ⟨sa, sc, hsh, _⟩ := hr.shape
  obtain ⟨sa', sc', hsh', _⟩ := hr'.shape
  have hse : s = .slice sa t.args.length sc := by simpa using hsh
  have hse' : s' = .slice sa' t'.args.length sc' := by simpa using hsh'
  subst hse; subst hse'
  simp only [List.cons.injEq, and_true] at hm hc hc'
  obtain ⟨rfl, rfl⟩ := hc
  obtain ⟨rfl, rfl⟩ := hc'
  subst hm
  exact ⟨⟨m, t, t'⟩, sa, sa', sc, sc', rfl, hr, hr'⟩
theorem openLv {tL tT tTs tI tb : TypeId} (ly : LiLay P tL tT tTs tI tb) {v : Value} {d : DataW H} {ps : List MemPlace} (h : DataW.Trod enc P W 0 spare held tL v d ps) (hw : (d.weights P tL).all (· ≤ reachBytes) = true) (hv : ∃ cs, v = .agg cs) : ∃ x, RepL (hImm W) v x := by
  obtain ⟨cs, rfl⟩ := hv
  obtain ⟨fuel, h1⟩ := h
  obtain ⟨y, la, ra, lc, rc, hc, hl, hr⟩ := openLi ly h1 hw
  refine ⟨y, la, lc, ra, rc, ?_, hl, hr⟩
  have : cs.toList = [.bool y.neg, .int .i64 y.l.head, .slice la y.l.args.length lc, .int .i64 y.r.head, .slice ra y.r.args.length rc] := by simpa [Value.cells] using hc
  cases cs; simp at this; subst this; rfl
end Go.Proofs.Ytdbadicpbmndbaa
/- What a row's reading of a clause, and of a script of stores, says of the heap; plain facts, no condition. -/
set_option linter.unusedVariables false
set_option linter.unusedSimpArgs false
namespace Go.Proofs.Ytdbadicpbmndbaa
open Go Lg Go.ChangeShapes Go.WideShapes Go.ChangeAt Go.RowKit
variable {H : Type} {enc : TypeId × Value → H} {P : Program} {W : World} {spare : Nat → Bool} {held : Bool}
theorem cells_allC {a : Addr} {n : Nat} {cs : List Value} (h : W.cells? 0 a n = some cs) : cs.length = n ∧ ∀ j v, cs[j]? = some v → W.cell? (a.add j) = some v := by
  simp only [World.cells?, Nat.zero_le, if_true] at h
  have key : ∀ (l : List Nat) (cs : List Value), l.mapM (fun i => W.cell? (a.add i)) = some cs → cs.length = l.length ∧ ∀ (j : Nat) (v : Value), cs[j]? = some v → ∃ i : Nat, l[j]? = some i ∧ W.cell? (a.add i) = some v := by
    intro l
    induction l with
    | nil => intro cs h; simp at h; subst h; exact ⟨rfl, fun j v h => by simp at h⟩
    | cons i l ih =>
      intro cs h
      simp only [List.mapM_cons, Option.bind_eq_bind, Option.bind_eq_some_iff, Option.pure_def, Option.some.injEq] at h
      obtain ⟨u, hu, r, hr, rfl⟩ := h
      obtain ⟨h1, h2⟩ := ih r hr
      refine ⟨by simp [h1], fun j v hj => ?_⟩
      cases j with
      | zero => simp at hj; subst hj; exact ⟨i, rfl, hu⟩
      | succ j => simpa using h2 j v (by simpa using hj)
  obtain ⟨h1, h2⟩ := key _ _ h
  refine ⟨by simpa using h1, fun j v hj => ?_⟩
  obtain ⟨i, hi, hc⟩ := h2 j v hj
  have hlt : j < n := by have := (List.getElem?_eq_some_iff.1 hi).1; simpa using this
  rw [List.getElem?_range hlt] at hi
  cases hi
  exact hc
theorem rowE_of {n : Nat} {α : Type} {E : Elt n α} {I : Imm} {ad : Option Addr} : ∀ (al : List α) (vss : List (List Value)), vss.length = al.length → (∀ i (h : i < al.length) (h' : i < vss.length), E.R I al[i] vss[i] ∧ At I ad (i * n) vss[i]) → RowE E I vss.flatten al ∧ ∀ m, (∀ i (h' : i < vss.length), At I ad (m * n + i * n) vss[i]) → ∀ j v, vss.flatten[j]? = some v → I.cellO (ad.map (·.add (m * n + j))) = some v
  | [], vss, hl, h => by
    have : vss = [] := List.eq_nil_of_length_eq_zero hl
    subst this
    exact ⟨rfl, fun m _ j v hj => by simp at hj⟩
  | a :: al, [], hl, h => by simp at hl
  | a :: al, vs :: vss, hl, h => by
    have hl' : vss.length = al.length := by simpa using hl
    have h0 := h 0 (by simp) (by simp)
    have hn : vs.length = n := E.len h0.1
    refine ⟨⟨vs, vss.flatten, rfl, h0.1, ?_⟩, ?_⟩
    · have key : ∀ (al : List α) (vss : List (List Value)), vss.length = al.length → (∀ i (h : i < al.length) (h' : i < vss.length), E.R I al[i] vss[i]) → RowE E I vss.flatten al := by
        intro al
        induction al with
        | nil => intro vss hl _; have : vss = [] := List.eq_nil_of_length_eq_zero hl; subst this; rfl
        | cons a al ih =>
          intro vss hl h
          rcases vss with _ | ⟨vs, vss⟩
          · simp at hl
          · exact ⟨vs, vss.flatten, rfl, h 0 (by simp) (by simp), ih vss (by simpa using hl) fun i h1 h2 => h (i + 1) (by simpa using h1) (by simpa using h2)⟩
      exact key al vss hl' fun i h1 h2 => (h (i + 1) (by simpa using h1) (by simpa using h2)).1
    · intro m hm j v hj
      have key : ∀ (vss : List (List Value)) (m : Nat), (∀ vs ∈ vss, vs.length = n) → (∀ i (h' : i < vss.length), At I ad (m * n + i * n) vss[i]) → ∀ j v, vss.flatten[j]? = some v → I.cellO (ad.map (·.add (m * n + j))) = some v := by
        intro vss
        induction vss with
        | nil => intro m _ _ j v hj; simp at hj
        | cons vs vss ih =>
          intro m hlen hm j v hj
          rw [List.flatten_cons] at hj
          have hvl := hlen vs (List.mem_cons_self ..)
          by_cases q : j < vs.length
          · rw [List.getElem?_append_left q] at hj
            have := hm 0 (by simp) j v hj
            simpa using this
          · rw [List.getElem?_append_right (by omega)] at hj
            have := ih (m + 1) (fun ws hw => hlen ws (List.mem_cons_of_mem _ hw)) (fun i h' => by
              have := hm (i + 1) (by simpa using h')
              rw [Nat.succ_mul] at this ⊢
              rw [show m * n + n + i * n = m * n + (i * n + n) by omega]
              simpa using this) (j - vs.length) v hj
            rw [Nat.succ_mul, show m * n + n + (j - vs.length) = m * n + j by omega] at this
            exact this
      have hlen : ∀ ws ∈ vs :: vss, ws.length = n := by
        intro ws hw
        obtain ⟨i, hi, rfl⟩ := List.getElem_of_mem hw
        exact E.len (h i (by rw [← hl]; exact hi) hi).1
      exact key (vs :: vss) m hlen hm j v hj
theorem repE_of {n : Nat} {α : Type} {E : Elt n α} {I : Imm} {ad : Option Addr} {c : Nat} (al : List α) (hc : al.length ≤ c) (hb : al.length ≤ 1954687338211) (h : ∀ i (h : i < al.length), ∃ vs, E.R I al[i] vs ∧ At I ad (i * n) vs) : RepE E I (.slice ad al.length c) al := by
  have hex : ∃ vss : List (List Value), vss.length = al.length ∧ ∀ i (h : i < al.length) (h' : i < vss.length), E.R I al[i] vss[i] ∧ At I ad (i * n) vss[i] := by
    classical
    refine ⟨(List.range al.length).map fun i => if h' : i < al.length then (h i h').choose else [], by simp, fun i h1 h2 => ?_⟩
    rw [List.getElem_map, List.getElem_range, dif_pos h1]
    exact (h i h1).choose_spec
  obtain ⟨vss, hl, hv⟩ := hex
  obtain ⟨h1, h2⟩ := rowE_of al vss hl hv
  refine ⟨ad, c, vss.flatten, rfl, hc, hb, fun j v hj => ?_, h1⟩
  have := h2 0 (fun i h' => by simpa using (hv i (by rw [← hl]; exact h') h').2) j v hj
  simpa using this
structure ClLay (P : Program) (tC tL tT tTs tI tb : TypeId) : Prop where
  lit : LiLay P tL tT tTs tI tb
  sl : P.underlying tC = some (.slice tL)
  bL : P.bytesOf tL = 72
theorem openCl {tC tL tT tTs tI tb : TypeId} (ly : ClLay P tC tL tT tTs tI tb) {fuel : Nat} {cs : List Value} {x : DataW H × List MemPlace} (h1 : DataW.trod enc P W 0 spare held fuel tC cs = some x) (hw : (x.1.weights P tC).all (· ≤ reachBytes) = true) : ∃ (a : Option Addr) (k : Nat) (c : List Li), cs = [.slice a c.length k] ∧ RepC (hImm W) (.slice a c.length k) c := by
  rcases DataW.trod_slice ly.sl h1 with ⟨hcs, _⟩ | ⟨a, len, cap, elems, rest, n', rfl, hcs, hd, _, hl, hm, hlen, hel, hsp, _⟩
  · exact ⟨none, 0, [], by simpa using hcs, RepE.nil⟩
  · obtain ⟨x1, x2⟩ := x
    obtain ⟨rfl, _⟩ := Prod.mk.inj hd
    simp only [DataW.weights, ly.sl, ly.bL, List.all_cons, List.all_append, Bool.and_eq_true, decide_eq_true_eq] at hw
    obtain ⟨hwl, hwe, _⟩ := hw
    have hwe' := weights_all hwe
    have hrb : reachBytes = 140737488351232 := rfl
    simp only [List.length_map, hlen] at hwl
    have hall : ∀ i, i < len → ∃ y : Li, ∃ vs, LitE.R (hImm W) y vs ∧ At (hImm W) (some a) (i * 5) vs := by
      intro i hi
      have hy := hel i hi
      rw [ly.lit.cL] at hy
      have hie : elems[i]? = some elems[i] := List.getElem?_eq_getElem (by omega)
      rw [hie, Option.bind_eq_some_iff] at hy
      obtain ⟨cs', hcs', htr⟩ := hy
      obtain ⟨_, hca⟩ := cells_allC hcs'
      obtain ⟨y, la, ra, lc, rc, rfl, h1, h2⟩ := openLi ly.lit htr (hwe' _ (List.mem_map.2 ⟨_, List.getElem_mem (by omega), rfl⟩))
      refine ⟨y, _, ⟨la, lc, ra, rc, rfl, h1, h2⟩, fun j v hj => ?_⟩
      have := hca j v hj
      rw [add_add] at this
      exact this
    obtain ⟨c, hcl, hc2⟩ := pick_list hall
    subst hcl
    exact ⟨some a, cap, c, by simpa using hcs, repE_of c hl (by omega) hc2⟩
theorem openCv {tC tL tT tTs tI tb : TypeId} (ly : ClLay P tC tL tT tTs tI tb) {v : Value} {d : DataW H} {ps : List MemPlace} (h : DataW.Trod enc P W 0 spare held tC v d ps) (hw : (d.weights P tC).all (· ≤ reachBytes) = true) (hv : ∃ a l c, v = .slice a l c) : ∃ c, RepC (hImm W) v c := by
  obtain ⟨a, l, c, rfl⟩ := hv
  obtain ⟨fuel, h1⟩ := h
  obtain ⟨a', k, cl, hcs, hr⟩ := openCl ly h1 hw
  simp [Value.cells] at hcs
  obtain ⟨rfl, rfl, rfl⟩ := hcs
  exact ⟨cl, hr⟩
end Go.Proofs.Ytdbadicpbmndbaa
