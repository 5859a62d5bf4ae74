/- Own texts, one behind the other: rules of a small program logic, walks through the program's functions, plain facts. No condition. -/
import Derived.Test.YtdbadicpbmndbaaZ1
import Derived.Test.YtdbadicpbmndbaaProg
import Derived.Laws.Externs
/- Facts on this translation's types and functions, each checked by the kernel. No condition. -/
namespace Go.Proofs.Ytdbadicpbmndbaa
open Go Lg
theorem ty3 : Ty Try.prog 3 false 1 := ⟨⟨_, Try.underlying3, rfl⟩, by kernel_rfl, fun _ => rfl⟩
theorem sz3 : (Try.prog.info? 3).map (·.size) = some 1 := by kernel_rfl
theorem ty4 : Ty Try.prog 4 false 1 := ⟨⟨_, Try.underlying4, rfl⟩, by kernel_rfl, fun _ => rfl⟩
theorem sz4 : (Try.prog.info? 4).map (·.size) = some 1 := by kernel_rfl
theorem ty9 : Ty Try.prog 9 false 1 := ⟨⟨_, Try.underlying9, rfl⟩, by kernel_rfl, fun _ => rfl⟩
theorem ty23 : Ty Try.prog 23 false 1 := ⟨⟨_, Try.underlying23, rfl⟩, by kernel_rfl, fun _ => rfl⟩
theorem ty25 : Ty Try.prog 25 true 2 := ⟨⟨_, Try.underlying25, rfl⟩, by kernel_rfl, fun h => by cases h⟩
theorem ty26 : Ty Try.prog 26 false 1 := ⟨⟨_, Try.underlying26, rfl⟩, by kernel_rfl, fun _ => rfl⟩
theorem sz26 : (Try.prog.info? 26).map (·.size) = some 1 := by kernel_rfl
theorem ty45 : Ty Try.prog 45 false 1 := ⟨⟨_, Try.underlying45, rfl⟩, by kernel_rfl, fun _ => rfl⟩
theorem ty47 : Ty Try.prog 47 true 2 := ⟨⟨_, Try.underlying47, rfl⟩, by kernel_rfl, fun h => by cases h⟩
theorem sz47 : (Try.prog.info? 47).map (·.size) = some 2 := by kernel_rfl
theorem ty49 : Ty Try.prog 49 true 5 := ⟨⟨_, Try.underlying49, rfl⟩, by kernel_rfl, fun h => by cases h⟩
theorem sz49 : (Try.prog.info? 49).map (·.size) = some 5 := by kernel_rfl
theorem ty51 : Ty Try.prog 51 false 1 := ⟨⟨_, Try.underlying51, rfl⟩, by kernel_rfl, fun _ => rfl⟩
theorem ty54 : Ty Try.prog 54 true 3 := ⟨⟨_, Try.underlying54, rfl⟩, by kernel_rfl, fun h => by cases h⟩
theorem sz54 : (Try.prog.info? 54).map (·.size) = some 3 := by kernel_rfl
theorem ty62 : Ty Try.prog 62 false 1 := ⟨⟨_, Try.underlying62, rfl⟩, by kernel_rfl, fun _ => rfl⟩
theorem sz62 : (Try.prog.info? 62).map (·.size) = some 1 := by kernel_rfl
theorem ty79 : Ty Try.prog 79 true 4 := ⟨⟨_, Try.underlying79, rfl⟩, by kernel_rfl, fun h => by cases h⟩
theorem sz79 : (Try.prog.info? 79).map (·.size) = some 4 := by kernel_rfl
theorem ty81 : Ty Try.prog 81 false 1 := ⟨⟨_, Try.underlying81, rfl⟩, by kernel_rfl, fun _ => rfl⟩
theorem ty82 : Ty Try.prog 82 false 1 := ⟨⟨_, Try.underlying82, rfl⟩, by kernel_rfl, fun _ => rfl⟩
theorem ty127 : Ty Try.prog 127 true 4 := ⟨⟨_, Try.underlying127, rfl⟩, by kernel_rfl, fun h => by cases h⟩
theorem sz127 : (Try.prog.info? 127).map (·.size) = some 4 := by kernel_rfl
theorem ty139 : Ty Try.prog 139 false 1 := ⟨⟨_, Try.underlying139, rfl⟩, by kernel_rfl, fun _ => rfl⟩
theorem ty141 : Ty Try.prog 141 false 1 := ⟨⟨_, Try.underlying141, rfl⟩, by kernel_rfl, fun _ => rfl⟩
theorem ty143 : Ty Try.prog 143 true 1 := ⟨⟨_, Try.underlying143, rfl⟩, by kernel_rfl, fun h => by cases h⟩
theorem ty173 : Ty Try.prog 173 false 1 := ⟨⟨_, Try.underlying173, rfl⟩, by kernel_rfl, fun _ => rfl⟩
theorem ty177 : Ty Try.prog 177 true 3 := ⟨⟨_, Try.underlying177, rfl⟩, by kernel_rfl, fun h => by cases h⟩
theorem sz177 : (Try.prog.info? 177).map (·.size) = some 3 := by kernel_rfl
theorem ty178 : Ty Try.prog 178 false 1 := ⟨⟨_, Try.underlying178, rfl⟩, by kernel_rfl, fun _ => rfl⟩
theorem z3 : (Try.prog.info? 3).map (·.zero) = some (some (.int .i64 0)) := by kernel_rfl
theorem z4 : (Try.prog.info? 4).map (·.zero) = some (some (.bool false)) := by kernel_rfl
theorem z26 : (Try.prog.info? 26).map (·.zero) = some (some (.slice none 0 0)) := by kernel_rfl
theorem z47 : (Try.prog.info? 47).map (·.zero) = some (some (.agg #[(.int .i64 0), (.slice none 0 0)])) := by kernel_rfl
theorem z49 : (Try.prog.info? 49).map (·.zero) = some (some (.agg #[(.bool false), (.int .i64 0), (.slice none 0 0), (.int .i64 0), (.slice none 0 0)])) := by kernel_rfl
theorem z54 : (Try.prog.info? 54).map (·.zero) = some (some (.agg #[(.int .i64 0), (.int .i64 0), (.slice none 0 0)])) := by kernel_rfl
theorem z79 : (Try.prog.info? 79).map (·.zero) = some (some (.agg #[(.string ⟨#[]⟩), (.int .i64 0), (.int .i64 0), (.bool false)])) := by kernel_rfl
theorem z81 : (Try.prog.info? 81).map (·.zero) = some (some (.pointer none)) := by kernel_rfl
theorem z127 : (Try.prog.info? 127).map (·.zero) = some (some (.agg #[(.int .i64 0), (.slice none 0 0), (.int .i64 0), (.slice none 0 0)])) := by kernel_rfl
theorem z139 : (Try.prog.info? 139).map (·.zero) = some (some (.map none)) := by kernel_rfl
theorem z143 : (Try.prog.info? 143).map (·.zero) = some (some (.agg #[.nilFunc])) := by kernel_rfl
theorem z173 : (Try.prog.info? 173).map (·.zero) = some (some (.map none)) := by kernel_rfl
theorem z177 : (Try.prog.info? 177).map (·.zero) = some (some (.agg #[(.int .i64 0), (.slice none 0 0), (.int .i64 0)])) := by kernel_rfl
theorem z178 : (Try.prog.info? 178).map (·.zero) = some (some (.slice none 0 0)) := by kernel_rfl
theorem bs3 : (Try.prog.info? 3).map (fun i => (i.zero, i.size, i.bytes)) = some (some (.int .i64 0), 1, 8) := by kernel_rfl
theorem bs26 : (Try.prog.info? 26).map (fun i => (i.zero, i.size, i.bytes)) = some (some (.slice none 0 0), 1, 24) := by kernel_rfl
theorem bs47 : (Try.prog.info? 47).map (fun i => (i.zero, i.size, i.bytes)) = some (some (.agg #[(.int .i64 0), (.slice none 0 0)]), 2, 32) := by kernel_rfl
theorem bs49 : (Try.prog.info? 49).map (fun i => (i.zero, i.size, i.bytes)) = some (some (.agg #[(.bool false), (.int .i64 0), (.slice none 0 0), (.int .i64 0), (.slice none 0 0)]), 5, 72) := by kernel_rfl
theorem bs127 : (Try.prog.info? 127).map (fun i => (i.zero, i.size, i.bytes)) = some (some (.agg #[(.int .i64 0), (.slice none 0 0), (.int .i64 0), (.slice none 0 0)]), 4, 64) := by kernel_rfl
theorem bs177 : (Try.prog.info? 177).map (fun i => (i.zero, i.size, i.bytes)) = some (some (.agg #[(.int .i64 0), (.slice none 0 0), (.int .i64 0)]), 3, 40) := by kernel_rfl
theorem fz3 : (Try.prog.info? 3).map (fun i => Nat.blt 0 i.size) = some true := by kernel_rfl
theorem fz4 : (Try.prog.info? 4).map (fun i => Nat.blt 0 i.size) = some true := by kernel_rfl
theorem fz9 : (Try.prog.info? 9).map (fun i => Nat.blt 0 i.size) = some true := by kernel_rfl
theorem fz23 : (Try.prog.info? 23).map (fun i => Nat.blt 0 i.size) = some true := by kernel_rfl
theorem fz26 : (Try.prog.info? 26).map (fun i => Nat.blt 0 i.size) = some true := by kernel_rfl
theorem fz45 : (Try.prog.info? 45).map (fun i => Nat.blt 0 i.size) = some true := by kernel_rfl
theorem fz47 : (Try.prog.info? 47).map (fun i => Nat.blt 0 i.size) = some true := by kernel_rfl
theorem fz82 : (Try.prog.info? 82).map (fun i => Nat.blt 0 i.size) = some true := by kernel_rfl
theorem fz141 : (Try.prog.info? 141).map (fun i => Nat.blt 0 i.size) = some true := by kernel_rfl
theorem bl47 : Bl Try.prog 47 [(.int .i64 0), (.slice none 0 0)] [(0, 1), (1, 1)] := ⟨⟨_, Try.underlying47, by kernel_rfl⟩, by kernel_rfl⟩
theorem bl49 : Bl Try.prog 49 [(.bool false), (.int .i64 0), (.slice none 0 0), (.int .i64 0), (.slice none 0 0)] [(0, 1), (1, 2), (3, 2)] := ⟨⟨_, Try.underlying49, by kernel_rfl⟩, by kernel_rfl⟩
theorem bl79 : Bl Try.prog 79 [(.string ⟨#[]⟩), (.int .i64 0), (.int .i64 0), (.bool false)] [(0, 1), (1, 1), (2, 1), (3, 1)] := ⟨⟨_, Try.underlying79, by kernel_rfl⟩, by kernel_rfl⟩
theorem bl84 : Bl Try.prog 84 [(.slice none 0 0), (.slice none 0 0)] [(0, 1), (1, 1)] := ⟨⟨_, Try.underlying84, by kernel_rfl⟩, by kernel_rfl⟩
theorem bl143 : Bl Try.prog 143 [.nilFunc] [(0, 1)] := ⟨⟨_, Try.underlying143, by kernel_rfl⟩, by kernel_rfl⟩
theorem bl177 : Bl Try.prog 177 [(.int .i64 0), (.slice none 0 0), (.int .i64 0)] [(0, 2), (2, 1)] := ⟨⟨_, Try.underlying177, by kernel_rfl⟩, by kernel_rfl⟩
theorem pl13 : Plainf Try.prog 13 = true := by kernel_rfl
theorem pl14 : Plainf Try.prog 14 = true := by kernel_rfl
theorem pl15 : Plainf Try.prog 15 = true := by kernel_rfl
theorem pl16 : Plainf Try.prog 16 = true := by kernel_rfl
theorem pl17 : Plainf Try.prog 17 = true := by kernel_rfl
theorem pl18 : Plainf Try.prog 18 = true := by kernel_rfl
theorem pl19 : Plainf Try.prog 19 = true := by kernel_rfl
theorem pl20 : Plainf Try.prog 20 = true := by kernel_rfl
theorem pl21 : Plainf Try.prog 21 = true := by kernel_rfl
theorem pl22 : Plainf Try.prog 22 = true := by kernel_rfl
theorem pl23 : Plainf Try.prog 23 = true := by kernel_rfl
theorem pl25 : Plainf Try.prog 25 = true := by kernel_rfl
theorem pl28 : Plainf Try.prog 28 = true := by kernel_rfl
theorem pl35 : Plainf Try.prog 35 = true := by kernel_rfl
theorem pl36 : Plainf Try.prog 36 = true := by kernel_rfl
theorem pl37 : Plainf Try.prog 37 = true := by kernel_rfl
theorem pl38 : Plainf Try.prog 38 = true := by kernel_rfl
theorem pl39 : Plainf Try.prog 39 = true := by kernel_rfl
theorem pl54 : Plainf Try.prog 54 = true := by kernel_rfl
theorem pl55 : Plainf Try.prog 55 = true := by kernel_rfl
theorem pl56 : Plainf Try.prog 56 = true := by kernel_rfl
theorem pl57 : Plainf Try.prog 57 = true := by kernel_rfl
theorem pl58 : Plainf Try.prog 58 = true := by kernel_rfl
theorem pl59 : Plainf Try.prog 59 = true := by kernel_rfl
theorem pl60 : Plainf Try.prog 60 = true := by kernel_rfl
theorem pl61 : Plainf Try.prog 61 = true := by kernel_rfl
theorem pl62 : Plainf Try.prog 62 = true := by kernel_rfl
theorem pl64 : Plainf Try.prog 64 = true := by kernel_rfl
theorem pl65 : Plainf Try.prog 65 = true := by kernel_rfl
theorem pl66 : Plainf Try.prog 66 = true := by kernel_rfl
theorem pl67 : Plainf Try.prog 67 = true := by kernel_rfl
theorem pl68 : Plainf Try.prog 68 = true := by kernel_rfl
theorem pl69 : Plainf Try.prog 69 = true := by kernel_rfl
theorem pl73 : Plainf Try.prog 73 = true := by kernel_rfl
theorem pl74 : Plainf Try.prog 74 = true := by kernel_rfl
theorem pl77 : Plainf Try.prog 77 = true := by kernel_rfl
theorem pl82 : Plainf Try.prog 82 = true := by kernel_rfl
theorem pl83 : Plainf Try.prog 83 = true := by kernel_rfl
theorem pl84 : Plainf Try.prog 84 = true := by kernel_rfl
theorem pl85 : Plainf Try.prog 85 = true := by kernel_rfl
theorem pl86 : Plainf Try.prog 86 = true := by kernel_rfl
theorem pl87 : Plainf Try.prog 87 = true := by kernel_rfl
theorem pl103 : Plainf Try.prog 103 = true := by kernel_rfl
theorem pl105 : Plainf Try.prog 105 = true := by kernel_rfl
theorem pl108 : Plainf Try.prog 108 = true := by kernel_rfl
theorem pl109 : Plainf Try.prog 109 = true := by kernel_rfl
theorem pl110 : Plainf Try.prog 110 = true := by kernel_rfl
theorem pl111 : Plainf Try.prog 111 = true := by kernel_rfl
theorem pl112 : Plainf Try.prog 112 = true := by kernel_rfl
theorem pl113 : Plainf Try.prog 113 = true := by kernel_rfl
theorem pl114 : Plainf Try.prog 114 = true := by kernel_rfl
theorem pl116 : Plainf Try.prog 116 = true := by kernel_rfl
theorem pl120 : Plainf Try.prog 120 = true := by kernel_rfl
theorem pl121 : Plainf Try.prog 121 = true := by kernel_rfl
theorem pl122 : Plainf Try.prog 122 = true := by kernel_rfl
theorem pl123 : Plainf Try.prog 123 = true := by kernel_rfl
theorem pl124 : Plainf Try.prog 124 = true := by kernel_rfl
theorem pl127 : Plainf Try.prog 127 = true := by kernel_rfl
theorem pl142 : Plainf Try.prog 142 = true := by kernel_rfl
theorem pl143 : Plainf Try.prog 143 = true := by kernel_rfl
theorem pl144 : Plainf Try.prog 144 = true := by kernel_rfl
theorem pl146 : Plainf Try.prog 146 = true := by kernel_rfl
theorem pl147 : Plainf Try.prog 147 = true := by kernel_rfl
theorem pl148 : Plainf Try.prog 148 = true := by kernel_rfl
theorem pl149 : Plainf Try.prog 149 = true := by kernel_rfl
theorem pl152 : Plainf Try.prog 152 = true := by kernel_rfl
theorem pl154 : Plainf Try.prog 154 = true := by kernel_rfl
theorem pl155 : Plainf Try.prog 155 = true := by kernel_rfl
theorem pl156 : Plainf Try.prog 156 = true := by kernel_rfl
theorem pl158 : Plainf Try.prog 158 = true := by kernel_rfl
theorem pl159 : Plainf Try.prog 159 = true := by kernel_rfl
theorem pl160 : Plainf Try.prog 160 = true := by kernel_rfl
theorem pl161 : Plainf Try.prog 161 = true := by kernel_rfl
theorem pl176 : Plainf Try.prog 176 = true := by kernel_rfl
theorem pl177 : Plainf Try.prog 177 = true := by kernel_rfl
theorem pl183 : Plainf Try.prog 183 = true := by kernel_rfl
theorem mixed : Try.prog.follows .mixedOrders = true := by kernel_rfl
end Go.Proofs.Ytdbadicpbmndbaa
/- How a signature lies in memory, and when two symbols are the same. Plain definitions; no condition. -/
set_option linter.unusedVariables false
set_option linter.unusedSimpArgs false
namespace Go.Proofs.Ytdbadicpbmndbaa
open Go Lg

structure Sy where
  name : ByteArray
  ar : Int
  wt : Int
  tr : Bool
def Sy.cs (s : Sy) : List Value := [.string s.name, .int .i64 s.ar, .int .i64 s.wt, .bool s.tr]
def Sy.v (s : Sy) : Value := .agg s.cs.toArray
def Sy.ok (s : Sy) : Prop := InR s.ar ∧ InR s.wt ∧ s.name.size ≤ maxLen
def nmEq (a b : ByteArray) : Bool := a.toList == b.toList
theorem nmEq_iff {a b : ByteArray} : nmEq a b = true ↔ a.toList = b.toList := by simp [nmEq]
/-- a signature that is only read -/
inductive RepG (I : Imm) : Value → List Sy → Prop
  | mk (ad : Option Addr) (c : Nat) (gs : List Sy) (hc : gs.length ≤ c) (hb : gs.length ≤ 4398046511104) (hat : ∀ i (h : i < gs.length), At I ad (i * 4) gs[i].cs) (hr : ∀ s ∈ gs, s.ok) : RepG I (.slice ad gs.length c) gs
theorem RepG.mono {I J : Imm} {v : Value} {gs : List Sy} (h : RepG I v gs) (hl : I.le J) : RepG J v gs := by
  obtain ⟨ad, c, gs, hc, hb, hat, hr⟩ := h
  exact ⟨ad, c, gs, hc, hb, fun i hi => (hat i hi).mono hl, hr⟩
theorem RepG.shape {I : Imm} {v : Value} {gs : List Sy} (h : RepG I v gs) : ∃ ad c, v = .slice ad gs.length c := by
  obtain ⟨ad, c, gs, _, _, _, _⟩ := h; exact ⟨ad, c, rfl⟩
theorem RepG.open {I : Imm} {ad : Option Addr} {n c : Nat} {gs : List Sy} (h : RepG I (.slice ad n c) gs) : n = gs.length ∧ gs.length ≤ c ∧ gs.length ≤ 4398046511104 ∧ (∀ i (h : i < gs.length), At I ad (i * 4) gs[i].cs) ∧ ∀ s ∈ gs, s.ok := by
  generalize e : Value.slice ad n c = v at h
  obtain ⟨ad', c', gs, hc, hb, hat, hr⟩ := h
  cases e
  exact ⟨rfl, hc, hb, hat, hr⟩
theorem RepG.take {I : Imm} {ad : Option Addr} {c : Nat} {gs : List Sy} (h : RepG I (.slice ad gs.length c) gs) {k : Nat} (hk : k ≤ gs.length) : RepG I (.slice ad k c) (gs.take k) := by
  obtain ⟨_, hc, hb, hat, hr⟩ := h.open
  have e : (gs.take k).length = k := by rw [List.length_take]; omega
  have := RepG.mk (I := I) ad c (gs.take k) (by omega) (by omega) (fun i hi => by
    have : (gs.take k)[i] = gs[i]'(by omega) := List.getElem_take
    rw [this]; exact hat i (by omega)) (fun s hs => hr s (List.mem_of_mem_take hs))
  rwa [e] at this
/-- out of a row of one's own -/
theorem RepG.of {I : Imm} {ad : Option Addr} {n c : Nat} {gs : List Sy} {xs : List Value} (hat : Cells I ad xs) (hx : xs = gs.flatMap Sy.cs) (hn : n = gs.length) (hc : n ≤ c) (hb : n ≤ 4398046511104) (hr : ∀ s ∈ gs, s.ok) : RepG I (.slice ad n c) gs := by
  subst hn; subst hx
  refine ⟨ad, c, gs, hc, hb, fun i hi => hat.at _ fun j v hj => ?_, hr⟩
  clear hat hc hb hr
  induction gs generalizing i with
  | nil => simp at hi
  | cons s r ih =>
    have hs : s.cs.length = 4 := rfl
    cases i with
    | zero =>
      simp only [List.getElem_cons_zero] at hj
      have hlt := (List.getElem?_eq_some_iff.1 hj).1
      rw [List.flatMap_cons, List.getElem?_append_left (by omega)]
      simpa using hj
    | succ i =>
      simp only [List.getElem_cons_succ] at hj
      have := ih i (by simpa using hi) hj
      rw [List.flatMap_cons, List.getElem?_append_right (by omega), hs, ← this]
      congr 1; omega

/-! ### equality -/
def syEq (a b : Sy) : Bool := (a.name == b.name) && (a.ar == b.ar && (a.wt == b.wt && a.tr == b.tr))
structure SyTy (P : Program) (t ts ti tb : TypeId) : Prop where
  str : ∃ f0 f1 f2 f3 : Field, P.underlying t = some (.struct #[f0, f1, f2, f3]) ∧ (f0.type = ts ∧ f0.offset = 0 ∧ f0.name ≠ "_") ∧ (f1.type = ti ∧ f1.offset = 1 ∧ f1.name ≠ "_") ∧ (f2.type = ti ∧ f2.offset = 2 ∧ f2.name ≠ "_") ∧ (f3.type = tb ∧ f3.offset = 3 ∧ f3.name ≠ "_")
  us : P.underlying ts = some .string
  ui : P.underlying ti = some (.int .i64)
  ub : P.underlying tb = some .bool
  held : P.stoodInHeld t = false
  guard : P.eqGuardType P.depth t = false
theorem run_part {P : Program} {t : TypeId} {u : TypeDesc} (hu : P.underlying t = some u) (hn : (match u with | .struct _ | .array _ _ => true | _ => false) = false) {cs : Array Value} {i : Nat} {v : Value} (hv : cs[i]? = some v) (w : World) : (part t cs i).run P w = .ok v w := by
  have h1 : (underlying t).run P w = .ok u w := by simp [underlying, program, Sem.run, hu]
  have hia : (isAgg t).run P w = .ok false w := by
    simp only [isAgg, Sem.run_bind, h1, Result.andThen]
    cases u <;> simp at hn <;> rfl
  simp [part, hia, hv]
theorem run_eqSy {P : Program} {t ts ti tb : TypeId} (ty : SyTy P t ts ti tb) (a b : Sy) (w : World) : (Op.equal t a.v b.v).run P w = .ok (syEq a b) w := by
  obtain ⟨f0, f1, f2, f3, hs, ⟨e1, e2, e3⟩, ⟨g1, g2, g3⟩, ⟨h1, h2, h3⟩, k1, k2, k3⟩ := ty.str
  have hu : (underlying t).run P w = .ok (.struct #[f0, f1, f2, f3]) w := by simp [underlying, program, Sem.run, hs]
  have hus : (underlying ts).run P w = .ok .string w := by simp [underlying, program, Sem.run, ty.us]
  have hui : (underlying ti).run P w = .ok (.int .i64) w := by simp [underlying, program, Sem.run, ty.ui]
  have hub : (underlying tb).run P w = .ok .bool w := by simp [underlying, program, Sem.run, ty.ub]
  have q1 : ∀ x y : ByteArray, (Op.equalIn 9999 ts (.string x) (.string y)).run P w = .ok (x == y) w := fun x y => by
    show (Op.equalIn (9998 + 1) ts (.string x) (.string y)).run P w = _
    rw [Op.equalIn]; simp only [Sem.run_bind, hus, Result.andThen]; rfl
  have q2 : ∀ x y : Int, (Op.equalIn 9999 ti (.int .i64 x) (.int .i64 y)).run P w = .ok (x == y) w := fun x y => by
    show (Op.equalIn (9998 + 1) ti (.int .i64 x) (.int .i64 y)).run P w = _
    rw [Op.equalIn]; simp only [Sem.run_bind, hui, Result.andThen]; rfl
  have q3 : ∀ x y : Bool, (Op.equalIn 9999 tb (.bool x) (.bool y)).run P w = .ok (x == y) w := fun x y => by
    show (Op.equalIn (9998 + 1) tb (.bool x) (.bool y)).run P w = _
    rw [Op.equalIn]; simp only [Sem.run_bind, hub, Result.andThen]; rfl
  have p1 : ∀ s : Sy, (part ts s.cs.toArray 0).run P w = .ok (.string s.name) w := fun s => run_part ty.us rfl rfl w
  have p2 : ∀ s : Sy, (part ti s.cs.toArray 1).run P w = .ok (.int .i64 s.ar) w := fun s => run_part ty.ui rfl rfl w
  have p3 : ∀ s : Sy, (part ti s.cs.toArray 2).run P w = .ok (.int .i64 s.wt) w := fun s => run_part ty.ui rfl rfl w
  have p4 : ∀ s : Sy, (part tb s.cs.toArray 3).run P w = .ok (.bool s.tr) w := fun s => run_part ty.ub rfl rfl w
  have hheld := ty.held
  show (Op.equalIn (9999 + 1) t (.agg a.cs.toArray) (.agg b.cs.toArray)).run P w = _
  rw [Op.equalIn]
  simp only [Sem.run_bind, hu, Result.andThen, program, Sem.run, hheld, Bool.false_eq_true, if_false]
  unfold syEq
  cases c1 : (a.name == b.name) <;> cases c2 : (a.ar == b.ar) <;> cases c3 : (a.wt == b.wt) <;> cases c4 : (a.tr == b.tr) <;>
    simp [Sem.run_bind, Result.andThen, e1, e2, e3, g1, g2, g3, h1, h2, h3, k1, k2, k3, p1, p2, p3, p4, q1, q2, q3, c1, c2, c3, c4, List.forIn_cons, List.forIn_nil]

variable {C : Ctx} {σ : Env} {ds : List Nat} {I : Imm} {δ : List Ent}
def cmpG : BinOp → Sy → Sy → Option Bool
  | .eql, a, b => some (syEq a b)
  | .neq, a, b => some (!(syEq a b))
  | _, _, _ => none
theorem Lg.v_eqSy {op : BinOp} {t t' ts ti tb : TypeId} {x y : Operand} {a b : Sy} {z : Bool} (ty : SyTy C.P t ts ti tb) (hx : evS σ x = some a.v) (hy : evS σ y = some b.v) (hz : cmpG op a b = some z) : ValJ C σ ds I δ (.binOp op t x y t') (.bool z) := by
  have hg : ∀ w, (eqGuard op t x y a.v b.v).run C.P w = .ok () w := fun w => by
    have hq := ty.guard
    cases op <;> simp [cmpG] at hz <;> simp [eqGuard, Sy.v, program, Sem.run, hq]
  have he : ∀ w, (Op.equal t a.v b.v).run C.P w = .ok (syEq a b) w := run_eqSy ty a b
  refine v_bin hx hy hg (fun w => ?_)
  have h2 : ∀ f : Bool → Bool, (do pure (Value.bool (f (← Op.equal t a.v b.v))) : Sem Value).run C.P w = .ok (.bool (f (syEq a b))) w := fun f => by simp only [Sem.run_bind, he, Result.andThen]; rfl
  cases op <;> simp only [cmpG, Option.some.injEq, reduceCtorEq] at hz
  · subst hz; exact h2 id
  · subst hz; exact h2 not
theorem syTy : SyTy Try.prog 79 9 3 4 :=
  ⟨⟨_, _, _, _, Try.underlying79, ⟨rfl, rfl, by decide⟩, ⟨rfl, rfl, by decide⟩, ⟨rfl, rfl, by decide⟩, rfl, rfl, by decide⟩, Try.underlying9, Try.underlying3, Try.underlying4, by kernel_rfl, by kernel_rfl⟩
end Go.Proofs.Ytdbadicpbmndbaa
/- Walks: rows of numbers. -/
set_option linter.unusedVariables false
set_option linter.unusedSimpArgs false
/- short -/
namespace Go.Proofs.Ytdbadicpbmndbaa
open Go Lg

end Go.Proofs.Ytdbadicpbmndbaa
/- Walks: what is ranged over: a row from behind, a term's parts. -/
set_option linter.unusedVariables false
set_option linter.unusedSimpArgs false
/- short -/
namespace Go.Proofs.Ytdbadicpbmndbaa
open Go Lg

def encB (ts : List T) (ss : Nat → Option Addr × Nat) (_ : Imm) (i : Nat) (vs : List Value) : Prop :=
  ∃ hi : i < ts.length, vs = [.int .i64 i, .agg #[.int .i64 ts[i].head, .slice (ss i).1 ts[i].args.length (ss i).2]]
theorem back_iter {I : Imm} {ts : List T} {ad : Option Addr} {c b : Nat} {ss : Nat → Option Addr × Nat} (hb : ts.length ≤ 4398046511104)
    (hat : ∀ i (h : i < ts.length), At I ad (i * 2) [.int .i64 ts[i].head, .slice (ss i).1 ts[i].args.length (ss i).2]) :
    Iter Try.prog 177 [.pointer (some ⟨b, 0, none⟩)] I [.box b 45 [.slice ad ts.length c]] (encB ts ss) (List.range ts.length).reverse := by
  intro yv J δ hmono h0 hy
  refine Does.intro Try.func177 rfl Try.ntmps177 rfl fun w0 => ?_
  refine code_seq ?_
  refine code_region ?_
  refine op_v (v_loadA ty45 rfl rfl) rfl ?_
  refine op_v (v_len Try.underlying45 rfl) rfl ?_
  refine op_v (v_subb rfl rfl rfl (by omega)) rfl ?_
  refine op_v (v_assign rfl) rfl ?_
  refine ops_nil ?_
  refine post_next ?_
  refine code_block ?_
  refine code_loop (fun m σ' I' δ' => ∃ (k : Nat) (δJ : List Ent), m = ts.length - k ∧ k ≤ ts.length ∧ σ' = [(0, yv), (1, .pointer (some ⟨b, 0, none⟩)), (3, .int .i64 ((ts.length : Int) - 1 - k))] ∧ I.le I' ∧ δ' = .box b 45 [.slice ad ts.length c] :: δJ ∧ J ((List.range ts.length).reverse.take k) I' δJ) ts.length [(0, yv), (1, .pointer (some ⟨b, 0, none⟩)), (3, .int .i64 ((ts.length : Int) - 1))] ⟨0, δ, rfl, Nat.zero_le _, by simp, Imm.le_refl _, rfl, h0⟩ ⟨rfl, rfl, rfl, trivial⟩ ?_
  rintro m _ I0 _ ⟨k, δJ, rfl, hk, rfl, hI0, rfl, hJ⟩
  refine code_seq ?_
  refine code_seq ?_
  refine code_region ?_
  refine op_v (v_move rfl) rfl ?_
  refine op_v (v_cmp rfl rfl rfl) rfl ?_
  refine ops_nil ?_
  refine post_next ?_
  refine code_cond rfl (fun hc0 => ?_) (fun hc0 => ?_)
  · have hq : 0 ≤ (ts.length : Int) - 1 - k := by simpa using hc0
    have hlt : k < ts.length := by omega
    obtain ⟨j, hj⟩ : ∃ j : Nat, j = ts.length - 1 - k := ⟨_, rfl⟩
    have hji : (ts.length : Int) - 1 - k = (j : Nat) := by omega
    rw [hji]
    have hjl : j < ts.length := by omega
    have hs1 := (hat j hjl).isSome
    have hx := range_rev ts.length k hlt
    rw [← hj] at hx
    have hx2 := range_rev_take ts.length k hlt
    rw [← hj] at hx2
    refine code_skip ?_
    refine post_next ?_
    refine code_seq ?_
    refine code_block ?_
    refine code_seq ?_
    refine code_region ?_
    refine op_v (v_move rfl) rfl ?_
    refine op_v (v_move rfl) rfl ?_
    refine op_v (v_loadA ty45 rfl rfl) rfl ?_
    refine op_v (v_move rfl) rfl ?_
    refine op_v (v_indexA Try.underlying45 sz47 rfl rfl) rfl ?_
    refine op_v (v_loadI0 ty47 ((hat j hjl).mono hI0) rfl rfl rfl) rfl ?_
    refine op_fcall rfl rfl rfl ((hy _ j _ _ _ _ hx hI0 hJ ⟨hjl, rfl⟩)) (List.perm_append_comm (l₁ := [_])) ?_
    rintro v17 I17 δ17 hI17 ⟨rfl, hJ17⟩
    refine OpsJ.view (View.perm (List.perm_append_comm (l₂ := [_]))) ?_
    rw [← hx2] at hJ17
    refine op_v (v_not rfl) rfl ?_
    refine ops_nil ?_
    refine post_next ?_
    refine code_cond_f rfl ?_
    refine code_skip ?_
    refine post_out ?_
    refine post_next ?_
    refine code_region ?_
    refine op_v (v_move rfl) rfl ?_
    refine op_v (v_subb rfl rfl rfl (by omega)) rfl ?_
    refine op_v (v_assign rfl) rfl ?_
    refine ops_nil ?_
    refine post_again (ts.length - (k + 1)) [(0, yv), (1, .pointer (some ⟨b, 0, none⟩)), (3, .int .i64 ((j : Int) - 1))] (by omega) ⟨k + 1, δ17, rfl, hlt, ?_, Imm.le_trans hI0 hI17, rfl, hJ17⟩ ⟨rfl, rfl, rfl, trivial⟩
    rw [show (j : Int) - 1 = (ts.length : Int) - 1 - ((k + 1 : Nat) : Int) by omega]
  · have hq : ¬ 0 ≤ (ts.length : Int) - 1 - k := by simpa using hc0
    have hge : k = ts.length := by omega
    have hall : (List.range ts.length).reverse.take k = (List.range ts.length).reverse := List.take_of_length_le (by simp; omega)
    rw [hall] at hJ
    refine code_exit ?_
    refine post_exit_then ?_
    refine post_exit_then ?_
    refine post_exit ?_
    refine post_end (rs := []) rfl (List.Perm.refl _) .nil (List.Sublist.refl _) ⟨δJ, hJ, rfl⟩

theorem Backward_does {I : Imm} {s : Value} :
    Does Try.prog 161 [s] I [] (fun v I' δ' => ∃ b, v = .func (.func 177) #[] #[.pointer (some ⟨b, 0, none⟩)] ∧ δ' = [.box b 45 (cellsL s)]) := by
  refine Does.intro Try.func161 rfl Try.ntmps161 rfl fun w0 => ?_
  refine code_seq ?_
  refine code_region ?_
  refine o_box rfl rfl rfl (fun b1 => ?_)
  refine op_v (v_assign rfl) rfl ?_
  refine ops_nil ?_
  refine post_next ?_
  refine code_seq ?_
  refine code_region ?_
  refine op_v (v_makeFunc rfl rfl) rfl ?_
  refine op_v (v_assign rfl) rfl ?_
  refine ops_nil ?_
  refine post_next ?_
  refine code_ret ?_
  refine post_ret (rs := [.tmp 2]) rfl (List.Perm.refl _) (.cons (.tmp rfl) .nil) (List.Sublist.refl _) ?_
  exact ⟨b1, rfl, rfl⟩
theorem parts_does {I : Imm} {h s : Value} :
    Does Try.prog 127 [.agg #[h, s]] I [] (fun v I' δ' => ∃ b, v = .func (.func 160) #[] #[.pointer (some ⟨b, 0, none⟩)] ∧ δ' = [.box b 47 [h, s]]) := by
  refine Does.intro Try.func127 rfl Try.ntmps127 rfl fun w0 => ?_
  refine code_seq ?_
  refine code_region ?_
  refine o_box rfl rfl rfl (fun b1 => ?_)
  refine op_v (v_assign rfl) rfl ?_
  refine ops_nil ?_
  refine post_next ?_
  refine code_seq ?_
  refine code_region ?_
  refine op_v (v_makeFunc rfl rfl) rfl ?_
  refine op_v (v_assign rfl) rfl ?_
  refine ops_nil ?_
  refine post_next ?_
  refine code_ret ?_
  refine post_ret (rs := [.tmp 2]) rfl (List.Perm.refl _) (.cons (.tmp rfl) .nil) (List.Sublist.refl _) ?_
  exact ⟨b1, rfl, rfl⟩
end Go.Proofs.Ytdbadicpbmndbaa
/- Walk: a term's parts, ranged over. -/
set_option linter.unusedVariables false
set_option linter.unusedSimpArgs false
/- short -/
namespace Go.Proofs.Ytdbadicpbmndbaa
open Go Lg

theorem Lg.OpsJ.rowSome {C : Ctx} {Q : Exit → Act → World → Prop} {σ : Env} {ds : List Nat} {I : Imm} {δ : List Ent} {ops : Array Oper} {rest : List Oper} {A : Option Addr} {c n size : Nat} {e : TypeId} {xs : List Value} (hd : Has δ (.row (.slice A n c) e size n xs)) (hn : 0 < n)
    (h : A.isSome = true → n ≤ c → OpsJ C ops Q rest σ ds I δ) : OpsJ C ops Q rest σ ds I δ := by
  intro a w he hs ht
  have hr : w.ownsRow 0 e size (.slice A n c) n xs := hs.ents _ hd.mem
  rcases hr.2 with ⟨h1, h2⟩ | ⟨g, cap, cur, h1, _, _, h3, _⟩
  · omega
  · cases h1
    exact h rfl h3 a w he hs ht

theorem partsT_eq (d : Nat) (u : T) : partsT d u = (d, u) :: partsL (d + 1) u.args := by cases u; rfl
def encP (I : Imm) (x : Nat × T) (vs : List Value) : Prop :=
  ∃ a c, vs = [.int .i64 x.1, .agg #[.int .i64 x.2.head, .slice a x.2.args.length c]] ∧ RepT I (.agg #[.int .i64 x.2.head, .slice a x.2.args.length c]) x.2

theorem parts_iter {I : Imm} {t : T} {ad : Option Addr} {c b : Nat} (hv : RepT I (.agg #[.int .i64 t.head, .slice ad t.args.length c]) t) (hbig : t.size ≤ 1000000000) :
    Iter Try.prog 160 [.pointer (some ⟨b, 0, none⟩)] I [.box b 47 [.int .i64 t.head, .slice ad t.args.length c]] encP (partsT 1 t) := by
  intro yv J δ hmono h0 hy
  refine Does.intro Try.func160 rfl Try.ntmps160 rfl fun w0 => ?_
  refine code_seq ?_
  refine code_region ?_
  refine op_v (v_loadA ty47 rfl rfl) rfl ?_
  refine op_v (v_build bl177 rfl rfl) rfl ?_
  refine o_buildSlice (xs := [(Go.Operand.tmp 8)]) Try.underlying178 bs177 rfl rfl rfl rfl rfl (fun b9 => ?_)
  refine o_alloc z178 rfl rfl (fun b3 => ?_)
  refine o_store ty178 rfl rfl rfl rfl rfl (by repeat (first | exact Swap.here | apply Swap.there)) rfl ?_
  refine ops_nil ?_
  refine post_next ?_
  refine code_block ?_
  refine code_loopD (fun m σ' ds' I' δ' => ∃ (pre st : List (Nat × T)) (ar : Option Addr) (cr : Nat) (xs : List Value) (δJ : List Ent), m = (partsS st).length ∧ σ' = [(0, yv), (1, .pointer (some ⟨b, 0, none⟩)), (3, .pointer (some ⟨b3, 0, none⟩))] ∧ I.le I' ∧ δ' = .box b3 178 [.slice ar st.length cr] :: .row (.slice ar st.length cr) 177 3 st.length xs :: .box b 47 [.int .i64 t.head, .slice ad t.args.length c] :: (MarkEnts ds' ++ δJ) ∧ J pre I' δJ ∧ RowK I' xs st ∧ pre ++ partsS st = partsT 1 t) (partsS [(1, t)]).length [(0, yv), (1, .pointer (some ⟨b, 0, none⟩)), (3, .pointer (some ⟨b3, 0, none⟩))] ⟨[], [(1, t)], _, _, _, δ, rfl, rfl, Imm.le_refl _, rfl, h0, RowK.one hv, by simp [partsS]⟩ ⟨rfl, rfl, rfl, trivial⟩ ?_
  rintro m _ ds0 I0 _ ⟨pre, st, ar, cr, xs, δJ, rfl, rfl, hI0, rfl, hJ, hrow, hall⟩
  refine code_seq ?_
  refine code_seq ?_
  refine code_region ?_
  refine op_v (v_loadA ty178 rfl rfl) rfl ?_
  refine op_v (v_len Try.underlying178 rfl) rfl ?_
  refine op_v (v_cmp rfl rfl rfl) rfl ?_
  refine ops_nil ?_
  refine post_next ?_
  refine code_cond rfl (fun hc0 => ?_) (fun hc0 => ?_)
  · rcases List.eq_nil_or_concat st with rfl | ⟨st', ⟨d, u⟩, rfl⟩
    · simp at hc0
    rw [List.concat_eq_append] at *
    have hlen : (st' ++ [(d, u)]).length = st'.length + 1 := by simp
    rw [hlen]
    obtain ⟨⟨sa, sc⟩, hld, hru⟩ := hrow.last
    have hrow' := hrow.take
    dsimp only at hld hru
    rw [partsS_snoc, partsT_eq] at hall
    have hdu := partsT_deep 1 t (d, u) (by rw [← hall]; simp)
    have hsz := congrArg List.length hall
    have hps := partsS_len st'
    have hus := sizeL_len u.args
    simp only [List.length_append, List.length_cons, partsT_length, partsL_length] at hsz
    dsimp only at hdu
    refine code_skip ?_
    refine post_next ?_
    refine code_block ?_
    refine code_seq ?_
    refine code_region ?_
    refine OpsJ.rowSome (Has.there Has.here) (by omega) (fun hA hcr => ?_)
    refine op_v (v_loadA ty178 rfl rfl) rfl ?_
    refine op_v (v_loadA ty178 rfl rfl) rfl ?_
    refine op_v (v_len Try.underlying178 rfl) rfl ?_
    refine op_v (v_subb rfl rfl rfl (by omega)) rfl ?_
    rw [show ((st'.length + 1 : Nat) : Int) - 1 = (st'.length : Nat) by omega]
    refine op_v (v_indexA Try.underlying178 sz177 rfl rfl) rfl ?_
    refine op_v (v_loadRow ty177 rfl (Has.there Has.here) hA hld) rfl ?_
    refine o_alloc z177 rfl rfl (fun b4 => ?_)
    refine o_store ty177 rfl rfl rfl rfl rfl (by repeat (first | exact Swap.here | apply Swap.there)) rfl ?_
    refine ops_nil ?_
    refine post_next ?_
    refine code_seq ?_
    refine code_region ?_
    refine op_v (v_loadA ty178 rfl rfl) rfl ?_
    refine op_v (v_loadA ty178 rfl rfl) rfl ?_
    refine op_v (v_len Try.underlying178 rfl) rfl ?_
    refine op_v (v_subb rfl rfl rfl (by omega)) rfl ?_
    rw [show ((st'.length + 1 : Nat) : Int) - 1 = (st'.length : Nat) by omega]
    refine op_v (v_sliceTo Try.underlying178 sz177 rfl rfl (by omega)) rfl ?_
    refine o_store ty178 rfl rfl rfl rfl rfl (by repeat (first | exact Swap.here | apply Swap.there)) rfl ?_
    refine ops_nil ?_
    refine post_next ?_
    refine code_seq ?_
    refine code_seq ?_
    refine code_region ?_
    refine OpsJ.view (View.short _ (Swap.there (Swap.there Swap.here)) (Nat.le_succ _)) ?_
    refine op_v (v_move rfl) rfl ?_
    refine op_v (v_fieldB 2 Try.underlying177 rfl rfl fz3 rfl) rfl ?_
    refine op_v (v_loadA ty3 rfl rfl) rfl ?_
    refine op_v (v_fieldB 0 Try.underlying177 rfl rfl fz47 rfl) rfl ?_
    refine op_v (v_loadA ty47 rfl rfl) rfl ?_
    refine op_fcall rfl rfl rfl ((hy pre (d, u) _ _ _ _ hall.symm hI0 hJ ⟨sa, sc, rfl, hru⟩)) (List.perm_append_comm (l₁ := _ :: _ :: _ :: _ :: MarkEnts ds0)) ?_
    rintro v29 I29 δ29 hI29 ⟨rfl, hJ29⟩
    refine OpsJ.view (View.perm (List.perm_append_comm (l₂ := _ :: _ :: _ :: _ :: MarkEnts ds0))) ?_
    refine op_v (v_not rfl) rfl ?_
    refine ops_nil ?_
    refine post_next ?_
    refine code_cond_f rfl ?_
    refine code_skip ?_
    refine post_next ?_
    refine code_seq ?_
    refine code_region ?_
    refine op_v (v_fieldB 0 Try.underlying177 rfl rfl fz47 rfl) rfl ?_
    refine op_v (v_fieldB 1 Try.underlying47 rfl rfl fz45 rfl) rfl ?_
    refine op_v (v_loadA ty45 rfl rfl) rfl ?_
    refine op_call pl161 rfl rfl ((Backward_does)) Parts.none ?_
    rintro v34 I34 _ hI34 ⟨b34, rfl, rfl⟩
    refine ops_nil ?_
    refine post_next ?_
    refine code_block ?_
    obtain ⟨_, _, hur, huc, hub, ss, hua, husub⟩ := (hru.mono (Imm.le_trans hI29 hI34)).open
    refine code_range (δb := [_, _, _]) (B := fun l I' δ' => ∃ (ar : Option Addr) (cr : Nat) (xs : List Value), δ' = [.box b4 177 [.int .i64 u.head, .slice sa u.args.length sc, .int .i64 d], .box b3 178 [.slice ar (st' ++ kids (d + 1) u.args l).length cr], .row (.slice ar (st' ++ kids (d + 1) u.args l).length cr) 177 3 (st' ++ kids (d + 1) u.args l).length xs] ∧ RowK I' xs (st' ++ kids (d + 1) u.args l)) rfl rfl pl177 rfl (back_iter hub hua) (List.Perm.refl _) ⟨ar, cr, _, by simp [kids]; rfl, by simpa [kids] using hrow'.mono (Imm.le_trans hI29 hI34)⟩ (by rintro _ _ _ ⟨_, rfl⟩; rfl) (by rintro l I1 I2 _ hle ⟨ar, cr, xs, rfl, hr⟩; exact ⟨ar, cr, xs, rfl, hr.mono hle⟩) ?_ ?_
    · rintro l r w1 pre2 j post2 I2 _ _ hrs hrp hx2 hI2 ⟨ar, cr, xs, rfl, hrow2⟩ ⟨hjl, rfl⟩
      have hpl := congrArg List.length hx2
      have hk2 : (st' ++ kids (d + 1) u.args pre2).length = st'.length + pre2.length := by simp [kids]
      have hk3 : st' ++ kids (d + 1) u.args (pre2 ++ [j]) = (st' ++ kids (d + 1) u.args pre2) ++ [(d + 1, u.args[j])] := by simp [kids, hjl]
      have hd1 : (d : Int) + 1 = ((d + 1 : Nat) : Int) := by omega
      simp only [List.length_reverse, List.length_range, List.length_append, List.length_cons] at hpl
      refine code_region ?_
      refine o_alloc z47 rfl rfl (fun b6 => ?_)
      refine o_store ty47 rfl rfl rfl rfl rfl (by repeat (first | exact Swap.here | apply Swap.there)) rfl ?_
      refine ops_nil ?_
      refine post_begin hrs (Swap.there Swap.here) ?_
      refine code_block ?_
      refine code_region ?_
      refine op_v (v_loadA ty178 rfl rfl) rfl ?_
      refine op_v (v_loadA ty47 rfl rfl) rfl ?_
      refine op_v (v_fieldB 2 Try.underlying177 rfl rfl fz3 rfl) rfl ?_
      refine op_v (v_loadA ty3 rfl rfl) rfl ?_
      refine op_v (v_addb rfl rfl rfl (by omega)) rfl ?_
      rw [hd1]
      refine op_v (v_build bl177 rfl rfl) rfl ?_
      refine o_buildSlice (xs := [(Go.Operand.tmp 42)]) Try.underlying178 bs177 rfl rfl rfl rfl rfl (fun b43 => ?_)
      refine o_append Try.underlying178 bs177 rfl rfl rfl (fun v' => by repeat (first | exact Swap.here | apply Swap.there)) (Src.ofRow (by repeat (first | exact Has.here | apply Has.there)) rfl) (by first | rfl | omega | simp) (by simp [cat, cellsL, Value.oneCell']) (by omega) (by omega) (fun a44 c44 => ?_)
      refine o_store ty178 rfl rfl rfl rfl rfl (by repeat (first | exact Swap.here | apply Swap.there)) rfl ?_
      refine ops_nil ?_
      refine post_out ?_
      refine PostJ.view ((View.drop Del.here).trans (View.drop Del.here)) ?_
      refine post_round Swap.here hrs hrp ⟨rfl, _, rfl, a44, c44, xs ++ [.int .i64 u.args[j].head, .slice (ss j).1 u.args[j].args.length (ss j).2, .int .i64 ((d + 1 : Nat) : Int)], ?_, ?_⟩
      · rw [hk3]; simp only [List.length_append, List.length_cons, List.length_nil]; rfl
      · rw [hk3]; exact hrow2.app (RowK.one ((husub j hjl).mono hI2))
    · rintro blk I3 _ hI3 ⟨ar, cr, xs, rfl, hrow3⟩
      refine post_out ?_
      refine post_out ?_
      refine PostJ.view ((View.drop (Del.there Del.here)).trans ((View.drop (Del.there Del.here)).trans (View.perm (List.perm_middle (l₁ := [_, _, _])).symm))) ?_
      refine post_againD (partsS (st' ++ kids (d + 1) u.args (List.range u.args.length).reverse)).length [(0, yv), (1, .pointer (some ⟨b, 0, none⟩)), (3, .pointer (some ⟨b3, 0, none⟩))] ?_ ⟨pre ++ [(d, u)], _, ar, cr, xs, δ29, rfl, rfl, Imm.le_trans hI0 (Imm.le_trans hI29 (Imm.le_trans hI34 hI3)), rfl, ?_, hrow3, ?_⟩ ⟨rfl, rfl, rfl, trivial⟩
      · rw [partsS_app, partsS_kids, partsS_snoc, partsT_eq]; simp
      · exact hmono _ _ _ _ (Imm.le_trans hI34 hI3) hJ29
      · rw [partsS_app, partsS_kids]; simpa using hall
  · have hst : st = [] := by simpa using hc0
    subst hst
    have hp : pre = partsT 1 t := by simpa [partsS] using hall
    subst hp
    refine code_exit ?_
    refine post_exit_then ?_
    refine post_exit_then ?_
    refine post_exit ?_
    refine post_end (rs := []) rfl (List.perm_append_comm_assoc [_, _, _] _ _) .nil (List.Sublist.cons _ (List.Sublist.cons _ (List.Sublist.refl _))) ⟨δJ, hJ, rfl⟩
end Go.Proofs.Ytdbadicpbmndbaa
/- Walks: size, depth, variables and rightness of a term, by the program. -/
set_option linter.unusedVariables false
set_option linter.unusedSimpArgs false
/- short -/
namespace Go.Proofs.Ytdbadicpbmndbaa
open Go Lg

/-! ### models -/
mutual
def depT : T → Nat
  | .mk _ ts => 1 + depL ts
def depL : List T → Nat
  | [] => 0
  | t :: r => max (depT t) (depL r)
end
def deepP (l : List (Nat × T)) : Nat := l.foldl (fun m x => max m x.1) 0
theorem deepP_snoc (l : List (Nat × T)) (x : Nat × T) : deepP (l ++ [x]) = max (deepP l) x.1 := by simp [deepP]
theorem foldl_max (l : List (Nat × T)) (m : Nat) : l.foldl (fun m x => max m x.1) m = max m (deepP l) := by
  induction l generalizing m with
  | nil => simp [deepP]
  | cons x r ih => rw [deepP, List.foldl_cons, List.foldl_cons, ih, ih]; omega
theorem deepP_app (l r : List (Nat × T)) : deepP (l ++ r) = max (deepP l) (deepP r) := by rw [deepP, List.foldl_append, foldl_max]; rfl
theorem deepP_cons (x : Nat × T) (r : List (Nat × T)) : deepP (x :: r) = max x.1 (deepP r) := by rw [deepP, List.foldl_cons, foldl_max]; omega
mutual
theorem deepP_T : ∀ (d : Nat) (t : T), deepP (partsT d t) + 1 = d + depT t
  | d, .mk h ts => by
    rw [partsT, deepP_cons]
    have := deepP_L (d + 1) ts
    simp only [depT]
    rcases this with ⟨rfl, h1⟩ | h1
    · simp [partsL, deepP, depL]
    · omega
theorem deepP_L : ∀ (d : Nat) (ts : List T), (ts = [] ∧ deepP (partsL d ts) = 0) ∨ deepP (partsL d ts) + 1 = d + depL ts
  | d, [] => .inl ⟨rfl, rfl⟩
  | d, t :: r => by
    right
    rw [partsL, deepP_app]
    have h1 := deepP_T d t
    have hd : 1 ≤ depT t := by cases t; simp [depT]
    simp only [depL]
    rcases deepP_L d r with ⟨hr, h2⟩ | h2
    · subst hr
      have h3 : depL ([] : List T) = 0 := by simp [depL]
      rw [h2, h3]; omega
    · omega
end
theorem dep_deep (t : T) : deepP (partsT 1 t) = depT t := by have := deepP_T 1 t; omega
mutual
theorem depT_size : ∀ t : T, depT t ≤ t.size
  | .mk h ts => by have := depL_size ts; simp [depT, T.size]; omega
theorem depL_size : ∀ ts : List T, depL ts ≤ sizeL ts
  | [] => by simp [depL, sizeL]
  | t :: r => by have := depT_size t; have := depL_size r; simp [depL, sizeL]; omega
end

end Go.Proofs.Ytdbadicpbmndbaa
/- Walks: a number among others; variables and rightness of a term; comparisons of numbers. -/
set_option linter.unusedVariables false
set_option linter.unusedSimpArgs false
/- short -/
namespace Go.Proofs.Ytdbadicpbmndbaa
open Go Lg

theorem ld_at {cs : List Value} {o : Nat} {x : Value} (h : cs[o]? = some x) : ld false 1 (cs.drop o) = some x := by
  obtain ⟨hl, rfl⟩ := List.getElem?_eq_some_iff.1 h
  rw [List.drop_eq_getElem_cons hl]; rfl
abbrev iRow (ar : Option Addr) (cr : Nat) (xs : List Int) : Ent := .row (.slice ar xs.length cr) 3 1 xs.length (xs.map (Value.int .i64))
theorem In_does {I : Imm} {ar : Option Addr} {cr : Nat} {xs : List Int} {x : Int} (hb : xs.length ≤ 1000000000) :
    Does Try.prog 54 [.int .i64 x, .slice ar xs.length cr] I [iRow ar cr xs] (fun v I' δ' => v = .bool (decide (x ∈ xs)) ∧ δ' = [iRow ar cr xs]) := by
  refine Does.intro Try.func54 rfl Try.ntmps54 rfl fun w0 => ?_
  refine code_seq ?_
  refine code_region ?_
  refine op_v (v_assign rfl) rfl ?_
  refine ops_nil ?_
  refine post_next ?_
  refine code_seq ?_
  refine code_seq ?_
  refine code_region ?_
  refine op_v (v_assign rfl) rfl ?_
  refine ops_nil ?_
  refine post_next ?_
  refine code_block ?_
  refine code_loop (fun m σ' I' δ' => ∃ k : Nat, m = xs.length - k ∧ σ' = [(0, .int .i64 x), (1, .slice ar xs.length cr), (5, .int .i64 k)] ∧ I' = I ∧ δ' = [iRow ar cr xs] ∧ k ≤ xs.length ∧ x ∉ xs.take k) (xs.length - 0) [(0, .int .i64 x), (1, .slice ar xs.length cr), (5, .int .i64 (0 : Nat))] ⟨0, rfl, rfl, rfl, rfl, ⟨Nat.zero_le _, by simp⟩⟩ ⟨rfl, rfl, rfl, trivial⟩ ?_
  rintro m _ _ _ ⟨k, rfl, rfl, rfl, rfl, hp⟩
  obtain ⟨hk, hp⟩ := hp
  refine code_seq ?_
  refine code_seq ?_
  refine code_region ?_
  refine op_v (v_move rfl) rfl ?_
  refine op_v (v_move rfl) rfl ?_
  refine op_v (v_len Try.underlying62 rfl) rfl ?_
  refine op_v (v_cmp rfl rfl rfl) rfl ?_
  refine ops_nil ?_
  refine post_next ?_
  refine code_cond rfl (fun hc0 => ?_) (fun hc0 => ?_)
  · have hlt : k < xs.length := by simpa using hc0
    refine code_skip ?_
    refine post_next ?_
    refine code_seq ?_
    refine code_block ?_
    refine code_seq ?_
    refine code_region ?_
    refine OpsJ.rowSome Has.here (by omega) (fun hA hcr => ?_)
    refine op_v (v_move rfl) rfl ?_
    refine op_v (v_move rfl) rfl ?_
    refine op_v (v_indexA Try.underlying62 sz3 rfl rfl) rfl ?_
    refine op_v (v_loadRow ty3 rfl Has.here hA (ld_at (x := .int .i64 xs[k]) (by simp [hlt]))) rfl ?_
    refine op_v (v_move rfl) rfl ?_
    refine op_v (v_cmp rfl rfl rfl) rfl ?_
    refine ops_nil ?_
    refine post_next ?_
    refine code_cond rfl (fun hc1 => ?_) (fun hc1 => ?_)
    · have heq : xs[k] = x := by simpa using hc1
      refine code_seq ?_
      refine code_region ?_
      refine op_v (v_assign rfl) rfl ?_
      refine ops_nil ?_
      refine post_next ?_
      refine code_ret ?_
      refine post_ret_block ?_
      refine post_ret_then ?_
      refine post_ret_then ?_
      refine post_ret_block ?_
      refine post_ret_then ?_
      refine post_ret (rs := [.tmp 4]) rfl (List.Perm.refl _) (.cons (.tmp rfl) .nil) (List.Sublist.refl _) ?_
      exact ⟨by rw [show decide (x ∈ xs) = true by simp [← heq]]; rfl, rfl⟩
    · have hne : x ≠ xs[k] := by have h := hc1; simp at h; exact fun e => h e.symm
      refine code_skip ?_
      refine post_out ?_
      refine post_next ?_
      refine code_region ?_
      refine op_v (v_move rfl) rfl ?_
      refine op_v (v_addb rfl rfl rfl (by omega)) rfl ?_
      refine op_v (v_assign rfl) rfl ?_
      refine ops_nil ?_
      refine post_again (xs.length - (k + 1)) [(0, .int .i64 x), (1, .slice ar xs.length cr), (5, .int .i64 (k + 1 : Nat))] (by omega) ⟨k + 1, rfl, rfl, rfl, rfl, ⟨hlt, by rw [List.take_succ_eq_append_getElem hlt, List.mem_append, List.mem_singleton]; exact fun h => h.elim hp hne⟩⟩ ⟨rfl, rfl, rfl, trivial⟩
  · have hge : k = xs.length := by simp at hc0; omega
    subst hge
    rw [List.take_length] at hp
    refine code_exit ?_
    refine post_exit_then ?_
    refine post_exit_then ?_
    refine post_exit ?_
    refine post_next ?_
    refine code_seq ?_
    refine code_region ?_
    refine op_v (v_assign rfl) rfl ?_
    refine ops_nil ?_
    refine post_next ?_
    refine code_ret ?_
    refine post_ret (rs := [.tmp 4]) rfl (List.Perm.refl _) (.cons (.tmp rfl) .nil) (List.Sublist.refl _) ?_
    exact ⟨by rw [show decide (x ∈ xs) = false by simp [hp]]; rfl, rfl⟩
end Go.Proofs.Ytdbadicpbmndbaa
/- Walks: sizes, comparison. -/
set_option linter.unusedVariables false
set_option linter.unusedSimpArgs false
/- short -/
namespace Go.Proofs.Ytdbadicpbmndbaa
open Go Lg

theorem Size_does : ∀ (n : Nat) (t : T), t.size ≤ n → t.size ≤ 1000000000 → ∀ (I : Imm) (v : Value), RepT I v t →
    Does Try.prog 152 [v] I [] (fun v I' δ' => v = .int .i64 t.size ∧ δ' = []) := by
  intro n
  induction n with
  | zero => intro t ht; have := t.size_pos; omega
  | succ n ih =>
    intro t ht hbig I v hv
    obtain ⟨h, ts⟩ := t
    obtain ⟨ad, c, ss, rfl, hr, hc, hb, hat, hsub⟩ := hv.elim
    have hsz : (T.mk h ts).size = 1 + sizeL ts := by simp [T.size]
    refine Does.intro Try.func152 rfl Try.ntmps152 rfl fun w0 => ?_
    refine code_seq ?_
    refine code_region ?_
    refine o_box rfl rfl rfl (fun b1 => ?_)
    refine op_v (v_assign rfl) rfl ?_
    refine ops_nil ?_
    refine post_next ?_
    refine code_seq ?_
    refine code_region ?_
    refine op_v (v_assign rfl) rfl ?_
    refine ops_nil ?_
    refine post_next ?_
    refine code_seq ?_
    refine code_seq ?_
    refine code_region ?_
    refine op_v (v_assign rfl) rfl ?_
    refine ops_nil ?_
    refine post_next ?_
    refine code_block ?_
    refine code_loop (fun m σ' I' δ' => ∃ k a : Nat, m = ts.length - k ∧ k ≤ ts.length ∧ σ' = [(1, .pointer (some ⟨b1, 0, none⟩)), (3, .int .i64 a), (4, .int .i64 k)] ∧ I.le I' ∧ δ' = [.box b1 47 [.int .i64 h, .slice ad ts.length c]] ∧ a + sizeL (ts.drop k) = 1 + sizeL ts) ts.length [(1, .pointer (some ⟨b1, 0, none⟩)), (3, .int .i64 (1 : Nat)), (4, .int .i64 (0 : Nat))] ⟨0, 1, rfl, Nat.zero_le _, rfl, Imm.le_refl _, rfl, rfl⟩ ⟨rfl, rfl, rfl, trivial⟩ ?_
    rintro m _ I0 _ ⟨k, a, rfl, hk, rfl, hI0, rfl, hp⟩
    refine code_seq ?_
    refine code_seq ?_
    refine code_region ?_
    refine op_v (v_move rfl) rfl ?_
    refine op_v (v_fieldB 1 Try.underlying47 rfl rfl fz45 rfl) rfl ?_
    refine op_v (v_loadA ty45 rfl rfl) rfl ?_
    refine op_v (v_len Try.underlying45 rfl) rfl ?_
    refine op_v (v_cmp rfl rfl rfl) rfl ?_
    refine ops_nil ?_
    refine post_next ?_
    refine code_cond rfl (fun hc0 => ?_) (fun hc0 => ?_)
    · have hlt : k < ts.length := by simpa using hc0
      have hs1 := (hat k hlt).isSome
      have hd := sizeL_drop ts k hlt
      have hm := sizeL_mem ts k hlt
      refine code_skip ?_
      refine post_next ?_
      refine code_seq ?_
      refine code_block ?_
      refine code_region ?_
      refine op_v (v_move rfl) rfl ?_
      refine op_v (v_fieldB 1 Try.underlying47 rfl rfl fz45 rfl) rfl ?_
      refine op_v (v_loadA ty45 rfl rfl) rfl ?_
      refine op_v (v_move rfl) rfl ?_
      refine op_v (v_indexA Try.underlying45 sz47 rfl rfl) rfl ?_
      refine op_v (v_loadI0 ty47 ((hat k hlt).mono hI0) rfl rfl rfl) rfl ?_
      refine op_call pl152 rfl rfl ((ih ts[k] (by omega) (by omega) _ _ ((hsub k hlt).mono hI0))) Parts.none ?_
      rintro _ I18 _ hI18 ⟨rfl, rfl⟩
      refine op_v (v_addb rfl rfl rfl (by omega)) rfl ?_
      refine op_v (v_assign rfl) rfl ?_
      refine ops_nil ?_
      refine post_out ?_
      refine post_next ?_
      refine code_region ?_
      refine op_v (v_move rfl) rfl ?_
      refine op_v (v_addb rfl rfl rfl (by omega)) rfl ?_
      refine op_v (v_assign rfl) rfl ?_
      refine ops_nil ?_
      refine post_again (ts.length - (k + 1)) [(1, .pointer (some ⟨b1, 0, none⟩)), (3, .int .i64 ((a + ts[k].size : Nat) : Int)), (4, .int .i64 ((k + 1 : Nat) : Int))] (by omega) ⟨k + 1, a + ts[k].size, rfl, hlt, rfl, Imm.le_trans hI0 hI18, rfl, by omega⟩ ⟨rfl, rfl, rfl, trivial⟩
    · have hge : ¬ k < ts.length := by simpa using hc0
      rw [List.drop_eq_nil_of_le (by omega)] at hp
      simp only [sizeL] at hp
      refine code_exit ?_
      refine post_exit_then ?_
      refine post_exit_then ?_
      refine post_exit ?_
      refine post_next ?_
      refine code_seq ?_
      refine code_region ?_
      refine op_v (v_move rfl) rfl ?_
      refine op_v (v_assign rfl) rfl ?_
      refine ops_nil ?_
      refine post_next ?_
      refine code_ret ?_
      refine post_ret (rs := [.tmp 2]) rfl (List.Perm.refl _) (.cons (.tmp rfl) .nil) (List.nil_sublist _) ?_
      exact ⟨by simp only [outV, hsz]; congr 2, rfl⟩

theorem Count_does : ∀ (n : Nat) (t : T), t.size ≤ n → ∀ (q : Nat), q ≤ 1000000000 → ∀ (I : Imm) (v : Value), RepT I v t →
    Does Try.prog 82 [v, .int .i64 q] I [] (fun v I' δ' => v = .int .i64 ((min t.size (q + 1) : Nat) : Int) ∧ δ' = []) := by
  intro n
  induction n with
  | zero => intro t ht; have := t.size_pos; omega
  | succ n ih =>
    intro t ht q hq I v hv
    obtain ⟨h, ts⟩ := t
    obtain ⟨ad, c, ss, rfl, hr, hc, hb, hat, hsub⟩ := hv.elim
    have hsz : (T.mk h ts).size = 1 + sizeL ts := by simp [T.size]
    refine Does.intro Try.func82 rfl Try.ntmps82 rfl fun w0 => ?_
    refine code_seq ?_
    refine code_region ?_
    refine o_box rfl rfl rfl (fun b2 => ?_)
    refine op_v (v_assign rfl) rfl ?_
    refine ops_nil ?_
    refine post_next ?_
    refine code_seq ?_
    refine code_region ?_
    refine op_v (v_assign rfl) rfl ?_
    refine ops_nil ?_
    refine post_next ?_
    refine code_seq ?_
    refine code_seq ?_
    refine code_region ?_
    refine op_v (v_assign rfl) rfl ?_
    refine ops_nil ?_
    refine post_next ?_
    refine code_block ?_
    refine code_loop (fun m σ' I' δ' => ∃ k a : Nat, m = ts.length - k ∧ k ≤ ts.length ∧ σ' = [(1, .int .i64 q), (2, .pointer (some ⟨b2, 0, none⟩)), (5, .int .i64 a), (6, .int .i64 k)] ∧ I.le I' ∧ δ' = [.box b2 47 [.int .i64 h, .slice ad ts.length c]] ∧ a ≤ q + 1 ∧ min (a + sizeL (ts.drop k)) (q + 1) = min (1 + sizeL ts) (q + 1)) ts.length [(1, .int .i64 q), (2, .pointer (some ⟨b2, 0, none⟩)), (5, .int .i64 (1 : Nat)), (6, .int .i64 (0 : Nat))] ⟨0, 1, rfl, Nat.zero_le _, rfl, Imm.le_refl _, rfl, by omega, rfl⟩ ⟨rfl, rfl, rfl, rfl, trivial⟩ ?_
    rintro m _ I0 _ ⟨k, a, rfl, hk, rfl, hI0, rfl, ha, hp⟩
    refine code_seq ?_
    refine code_seq ?_
    refine code_region ?_
    refine op_v (v_move rfl) rfl ?_
    refine op_v (v_fieldB 1 Try.underlying47 rfl rfl fz45 rfl) rfl ?_
    refine op_v (v_loadA ty45 rfl rfl) rfl ?_
    refine op_v (v_len Try.underlying45 rfl) rfl ?_
    by_cases hlt : k < ts.length
    · refine op_v (v_cmptA rfl rfl rfl) rfl ?_
      refine op_v (v_move rfl) rfl ?_
      refine op_want rfl rfl ?_
      refine op_v (v_move rfl) rfl ?_
      refine op_want rfl rfl ?_
      refine op_v (v_move rfl) rfl ?_
      by_cases hle : a ≤ q
      · first
          | (refine op_want rfl rfl ?_
             refine op_v (v_cmptA rfl rfl rfl) rfl ?_)
          | (refine op_skip rfl rfl (by simp [undef]) rfl ?_)
        refine op_v (v_pickt rfl rfl) rfl ?_
        refine ops_nil ?_
        refine post_next ?_
        refine code_cond_t rfl ?_
        refine code_skip ?_
        refine post_next ?_
        refine code_seq ?_
        refine code_block ?_
        refine code_region ?_
        have hs1 := (hat k hlt).isSome
        have hd := sizeL_drop ts k hlt
        have hm := sizeL_mem ts k hlt
        refine op_v (v_move rfl) rfl ?_
        refine op_v (v_fieldB 1 Try.underlying47 rfl rfl fz45 rfl) rfl ?_
        refine op_v (v_loadA ty45 rfl rfl) rfl ?_
        refine op_v (v_move rfl) rfl ?_
        refine op_v (v_indexA Try.underlying45 sz47 rfl rfl) rfl ?_
        refine op_v (v_loadI0 ty47 ((hat k hlt).mono hI0) rfl rfl rfl) rfl ?_
        refine op_v (v_move rfl) rfl ?_
        refine op_v (v_move rfl) rfl ?_
        refine op_v (v_subb (c := ((q - a : Nat) : Int)) rfl rfl (by omega) (by omega)) rfl ?_
        refine op_call pl82 rfl rfl ((ih ts[k] (by omega) (q - a) (by omega) _ _ ((hsub k hlt).mono hI0))) Parts.none ?_
        rintro _ I18 _ hI18 ⟨rfl, rfl⟩
        refine op_v (v_addb rfl rfl rfl (by omega)) rfl ?_
        refine op_v (v_assign rfl) rfl ?_
        refine ops_nil ?_
        refine post_out ?_
        refine post_next ?_
        refine code_region ?_
        refine op_v (v_move rfl) rfl ?_
        refine op_v (v_addb rfl rfl rfl (by omega)) rfl ?_
        refine op_v (v_assign rfl) rfl ?_
        refine ops_nil ?_
        refine post_again (ts.length - (k + 1)) [(1, .int .i64 q), (2, .pointer (some ⟨b2, 0, none⟩)), (5, .int .i64 ((a + min ts[k].size (q - a + 1) : Nat) : Int)), (6, .int .i64 ((k + 1 : Nat) : Int))] (by omega) ⟨k + 1, a + min ts[k].size (q - a + 1), rfl, hlt, rfl, Imm.le_trans hI0 hI18, rfl, by omega, by omega⟩ ⟨rfl, rfl, rfl, rfl, trivial⟩
      · first
          | (refine op_want rfl rfl ?_
             refine op_v (v_cmpfA rfl rfl rfl) rfl ?_)
          | (refine op_skip rfl rfl (by simp [undef]) rfl ?_)
        refine op_v (v_pickt rfl rfl) rfl ?_
        refine ops_nil ?_
        refine post_next ?_
        refine code_cond_f rfl ?_
        refine code_exit ?_
        refine post_exit_then ?_
        refine post_exit_then ?_
        refine post_exit ?_
        refine post_next ?_
        refine code_seq ?_
        refine code_region ?_
        refine op_v (v_move rfl) rfl ?_
        refine op_v (v_assign rfl) rfl ?_
        refine ops_nil ?_
        refine post_next ?_
        refine code_ret ?_
        refine post_ret (rs := [.tmp 4]) rfl (List.Perm.refl _) (.cons (.tmp rfl) .nil) (List.nil_sublist _) ?_
        exact ⟨by simp only [outV, hsz, ← hp]; congr 2; omega, rfl⟩
    · refine op_v (v_cmpfA rfl rfl rfl) rfl ?_
      refine op_v (v_move rfl) rfl ?_
      refine op_skip rfl rfl (by simp [undef]) rfl ?_
      refine op_skip rfl rfl (by simp [undef]) rfl ?_
      refine op_skip rfl rfl (by simp [undef]) rfl ?_
      refine op_v (v_pickf rfl rfl) rfl ?_
      refine ops_nil ?_
      refine post_next ?_
      refine code_cond_f rfl ?_
      refine code_exit ?_
      refine post_exit_then ?_
      refine post_exit_then ?_
      refine post_exit ?_
      refine post_next ?_
      refine code_seq ?_
      refine code_region ?_
      refine op_v (v_move rfl) rfl ?_
      refine op_v (v_assign rfl) rfl ?_
      refine ops_nil ?_
      refine post_next ?_
      refine code_ret ?_
      refine post_ret (rs := [.tmp 4]) rfl (List.Perm.refl _) (.cons (.tmp rfl) .nil) (List.nil_sublist _) ?_
      rw [List.drop_eq_nil_of_le (by omega)] at hp
      simp only [sizeL] at hp
      exact ⟨by simp only [outV, hsz, ← hp]; congr 2; omega, rfl⟩

end Go.Proofs.Ytdbadicpbmndbaa
/- Walks: copies, places. -/
set_option linter.unusedVariables false
set_option linter.unusedSimpArgs false
/- short -/
namespace Go.Proofs.Ytdbadicpbmndbaa
open Go Lg

end Go.Proofs.Ytdbadicpbmndbaa
/- Walks: places, by definition. -/
set_option linter.unusedVariables false
set_option linter.unusedSimpArgs false
/- short -/
namespace Go.Proofs.Ytdbadicpbmndbaa
open Go Lg

end Go.Proofs.Ytdbadicpbmndbaa
/- Walks: places under others; clones. -/
set_option linter.unusedVariables false
set_option linter.unusedSimpArgs false
/- short -/
namespace Go.Proofs.Ytdbadicpbmndbaa
open Go Lg

end Go.Proofs.Ytdbadicpbmndbaa
/- Walks: the part at a place. -/
set_option linter.unusedVariables false
set_option linter.unusedSimpArgs false
/- short -/
namespace Go.Proofs.Ytdbadicpbmndbaa
open Go Lg

end Go.Proofs.Ytdbadicpbmndbaa
/- Walks: rows of numbers of one's own. -/
set_option linter.unusedVariables false
set_option linter.unusedSimpArgs false
/- short -/
namespace Go.Proofs.Ytdbadicpbmndbaa
open Go Lg

theorem RInts.of {I : Imm} {ad : Option Addr} {n c : Nat} {xs : List Int} (hn : n = xs.length) (hc : n ≤ c) (hb : n ≤ 17592186044416) (hat : Cells I ad (xs.map (Value.int .i64))) (hr : ∀ x ∈ xs, InR x) : RInts I (.slice ad n c) xs := by
  subst hn
  exact ⟨ad, c, xs, hc, hb, hat, hr⟩
theorem RInts.len {I : Imm} {v : Value} {xs : List Int} (h : RInts I v xs) : xs.length ≤ 17592186044416 ∧ ∀ x ∈ xs, InR x := by
  obtain ⟨ad, c, xs, hc, hb, hat, hr⟩ := h
  exact ⟨hb, hr⟩

theorem RInts.shape {I : Imm} {v : Value} {xs : List Int} (h : RInts I v xs) : ∃ ad c, v = .slice ad xs.length c := by
  obtain ⟨ad, c, xs, _, _, _, _⟩ := h
  exact ⟨ad, c, rfl⟩

theorem RInts.atI {I : Imm} {a : Option Addr} {n c : Nat} {xs : List Int} (h : RInts I (.slice a n c) xs) (i : Nat) (hi : i < xs.length) : At I a (i * 1) [.int .i64 xs[i]] := by
  generalize e : Value.slice a n c = v at h
  obtain ⟨ad, c', xs, hc, hb, hat, hr⟩ := h
  cases e
  exact ints_at hat i hi
/-- rows of rows of numbers -/
def RowP (I : Imm) (xs : List Value) (ps : List (List Int)) : Prop := xs.length = ps.length ∧ ∀ i (h : i < ps.length), ∃ v, xs[i]? = some v ∧ RInts I v ps[i]
theorem RowP.nil (I : Imm) : RowP I [] [] := ⟨rfl, fun i h => by simp at h⟩
theorem RowP.mono {I J : Imm} {xs : List Value} {ps : List (List Int)} (h : RowP I xs ps) (hl : I.le J) : RowP J xs ps :=
  ⟨h.1, fun i hi => let ⟨v, h1, h2⟩ := h.2 i hi; ⟨v, h1, h2.mono hl⟩⟩
theorem RowP.one {I : Imm} {xs : List Value} {ps : List (List Int)} (h : RowP I xs ps) : ∀ u ∈ xs, u.oneCell' = true := by
  intro u hu
  obtain ⟨i, hi, rfl⟩ := List.getElem_of_mem hu
  obtain ⟨v, h1, h2⟩ := h.2 i (by rw [← h.1]; exact hi)
  rw [List.getElem?_eq_getElem hi] at h1
  have e : xs[i] = v := by simpa using h1
  show xs[i].oneCell' = true
  rw [e]
  generalize ps[i]'(by rw [← h.1]; exact hi) = p at h2
  obtain ⟨ad, c, xs, _, _, _, _⟩ := h2
  rfl
inductive RPs (I : Imm) : Value → List (List Int) → Prop
  | mk (ad : Option Addr) (c : Nat) (xs : List Value) (ps : List (List Int)) (hc : ps.length ≤ c) (hb : ps.length ≤ 4398046511104) (hat : Cells I ad xs) (hr : RowP I xs ps) : RPs I (.slice ad ps.length c) ps
theorem RPs.of {I : Imm} {ad : Option Addr} {n c : Nat} {xs : List Value} {ps : List (List Int)} (hn : n = ps.length) (hc : n ≤ c) (hb : n ≤ 4398046511104) (hat : Cells I ad xs) (hr : RowP I xs ps) : RPs I (.slice ad n c) ps := by
  subst hn
  exact ⟨ad, c, xs, ps, hc, hb, hat, hr⟩
theorem RPs.mono {I J : Imm} {v : Value} {ps : List (List Int)} (h : RPs I v ps) (hl : I.le J) : RPs J v ps := by
  obtain ⟨ad, c, xs, ps, hc, hb, hat, hr⟩ := h
  exact ⟨ad, c, xs, ps, hc, hb, hat.mono hl, hr.mono hl⟩
theorem RPs.get {I : Imm} {ad : Option Addr} {xs : List Value} {ps : List (List Int)} (hat : Cells I ad xs) (hr : RowP I xs ps) (i : Nat) (h : i < ps.length) :
    ∃ (ed : Option Addr) (ec : Nat), At I ad (i * 1) [.slice ed ps[i].length ec] ∧ RInts I (.slice ed ps[i].length ec) ps[i] := by
  obtain ⟨v, h1, h2⟩ := hr.2 i h
  generalize he : ps[i] = p at h2
  obtain ⟨ad', c, p, _, _, _, _⟩ := h2
  refine ⟨ad', c, hat.at _ fun j u hj => ?_, ⟨ad', c, p, ‹_›, ‹_›, ‹_›, ‹_›⟩⟩
  rcases j with _ | j
  · simp at hj; subst hj; simpa using h1
  · simp at hj
end Go.Proofs.Ytdbadicpbmndbaa
/- Walks: all places of a term. -/
set_option linter.unusedVariables false
set_option linter.unusedSimpArgs false
/- short -/
namespace Go.Proofs.Ytdbadicpbmndbaa
open Go Lg

end Go.Proofs.Ytdbadicpbmndbaa
/- Walks: all places of a term, by the program. -/
set_option linter.unusedVariables false
set_option linter.unusedSimpArgs false
/- short -/
namespace Go.Proofs.Ytdbadicpbmndbaa
open Go Lg

end Go.Proofs.Ytdbadicpbmndbaa
/- Walks: another part put at a place, by definition. -/
set_option linter.unusedVariables false
set_option linter.unusedSimpArgs false
/- short -/
namespace Go.Proofs.Ytdbadicpbmndbaa
open Go Lg

/-- another part at a place that is there -/
def putT : T → List Int → T → T
  | _, [], u => u
  | t, x :: r, u => .mk t.head (t.args.set x.toNat (putT (t.args.getD x.toNat zeroT) r u))

theorem atT_cons {t : T} {x : Int} {r : List Int} (h : (atT t (x :: r)).isSome = true) : ∃ i : Nat, x = i ∧ ∃ hi : i < t.args.length, (atT t.args[i] r).isSome = true := by
  unfold atT at h
  by_cases hh : 0 ≤ x ∧ x.toNat < t.args.length
  · rw [dif_pos hh] at h
    obtain ⟨i, rfl⟩ := Int.eq_ofNat_of_zero_le hh.1
    exact ⟨i, rfl, hh.2, h⟩
  · rw [dif_neg hh] at h; cases h

end Go.Proofs.Ytdbadicpbmndbaa
/- Walks: another part put at a place, by the program. -/
set_option linter.unusedVariables false
set_option linter.unusedSimpArgs false
namespace Go.Proofs.Ytdbadicpbmndbaa
open Go Lg

/-! ### rows and boxes -/
theorem stL_one {cs : List Value} {o : Nat} {x v : Value} (h : cs[o]? = some x) : stL cs o [v] = some (cs.set o v) := by
  induction cs generalizing o with
  | nil => simp at h
  | cons c cs ih =>
    cases o with
    | zero => cases cs <;> simp [stL]
    | succ o => simp at h; simp [stL, ih h]
/-! ### places, from behind -/
theorem atT_c (t : T) (x : Int) (r : List Int) : atT t (x :: r) = if h : 0 ≤ x ∧ x.toNat < t.args.length then atT (t.args[x.toNat]'h.2) r else none := by simp only [atT]
theorem putT_snoc : ∀ (q : List Int) (t u w : T) (i : Nat), atT t q = some u → i < u.args.length → putT t (q ++ [(i : Int)]) w = putT t q (.mk u.head (u.args.set i w))
  | [], t, u, w, i, h, hi => by
    simp [atT] at h; subst h
    simp [putT]
  | x :: q, t, u, w, i, h, hi => by
    rw [List.cons_append]
    have h' : (atT t (x :: q)).isSome = true := by rw [h]; rfl
    obtain ⟨j, rfl, hj, _⟩ := atT_cons h'
    simp only [atT, Int.toNat_natCast] at h
    rw [dif_pos ⟨by omega, hj⟩] at h
    simp only [putT, Int.toNat_natCast]
    have e : t.args.getD j zeroT = t.args[j] := by simp [hj]
    rw [e, putT_snoc q _ u w i h hi]

/-- What is to be put into the cells at (b, off) stands at q. -/
def Hole (t : T) (q : List Int) (b0 b off : Nat) (cs : List Value) (I : Imm) : Prop :=
  ∀ (J : Imm) (w : T) (wd : Option Addr) (wc : Nat), I.le J → J b = some (.cells ((cs.set off (.int .i64 w.head)).set (off + 1) (.slice wd w.args.length wc)).toArray 47 (0, 0)) → RepT J (.agg #[.int .i64 w.head, .slice wd w.args.length wc]) w →
    ∃ v0 v1, J b0 = some (.cells #[v0, v1] 47 (0, 0)) ∧ RepT J (.agg #[v0, v1]) (putT t q w)
theorem Hole.mono {t : T} {q : List Int} {b0 b off : Nat} {cs : List Value} {I J : Imm} (h : Hole t q b0 b off cs I) (hl : I.le J) : Hole t q b0 b off cs J :=
  fun K w wd wc hk hb hr => h K w wd wc (Imm.le_trans hl hk) hb hr
theorem RowT.set {I : Imm} {xs : List Value} {ts : List T} {w : T} {wd : Option Addr} {wc i : Nat} (h : RowT I xs ts) (hr : RepT I (.agg #[.int .i64 w.head, .slice wd w.args.length wc]) w) (hi : i < ts.length) :
    RowT I ((xs.set (i * 2) (.int .i64 w.head)).set (i * 2 + 1) (.slice wd w.args.length wc)) (ts.set i w) := by
  refine ⟨by simp [h.1], fun j hj => ?_⟩
  have hj' : j < ts.length := by simpa using hj
  obtain ⟨s, h1, h2, h3⟩ := h.2 j hj'
  by_cases e : i = j
  · subst e
    have e1 : (ts.set i w)[i] = w := by simp
    rw [e1]
    exact ⟨(wd, wc), by rw [List.getElem?_set_ne (by omega), List.getElem?_set_self (by rw [h.1]; omega)], by rw [List.getElem?_set_self (by simp [h.1]; omega)], hr⟩
  · have e1 : (ts.set i w)[j] = ts[j] := by simp [List.getElem_set_ne e]
    rw [e1]
    exact ⟨s, by rw [List.getElem?_set_ne (by omega), List.getElem?_set_ne (by omega)]; exact h1, by rw [List.getElem?_set_ne (by omega), List.getElem?_set_ne (by omega)]; exact h2, h3⟩

theorem cells_of {J : Imm} {g : Nat} {e : TypeId} {cs : List Value} (h : J g = some (.cells cs.toArray e (0, 0))) (n : Nat) : Cells J (some ⟨g, 0, none⟩) (cs.take n) := fun j v hj => by
  have hadd : (⟨g, 0, none⟩ : Addr).add j = ⟨g, j, none⟩ := by rw [add_plain]; simp
  simp only [Option.map_some, Imm.cellO, Imm.cell, hadd, h]
  rw [List.getElem?_take] at hj
  split at hj
  · simpa using hj
  · cases hj

theorem Hole.step {t u : T} {q : List Int} {b0 b off g n cap i : Nat} {cs cs3 xs : List Value} {I J : Imm} (h : Hole t q b0 b off cs I) (hl : I.le J) (hat : atT t q = some u) (hn : u.args.length = n)
    (hb : J b = some (.cells (cs.set (off + 1) (.slice (some ⟨g, 0, none⟩) n cap)).toArray 47 (0, 0))) (hc0 : cs[off]? = some (.int .i64 u.head)) (hr : InR u.head) (hnc : n ≤ cap) (hnb : n ≤ 4398046511104)
    (htk : cs3.take (n * 2) = xs) (hrow : RowT J xs u.args) (hi : i < n) : Hole t (q ++ [(i : Int)]) b0 g (i * 2) cs3 J := by
  intro K w wd wc hk hg hw
  have hset : cs.set off (.int .i64 u.head) = cs := by
    obtain ⟨hlt, he⟩ := List.getElem?_eq_some_iff.1 hc0
    rw [← he, List.set_getElem_self]
  have hcells := cells_of hg (n * 2)
  rw [List.take_set, List.take_set, htk] at hcells
  have hrow' := (hrow.mono hk).set hw (i := i) (by omega)
  have hlen : (T.mk u.head (u.args.set i w)).args.length = n := by
    show (u.args.set i w).length = n
    simp [hn]
  obtain ⟨v0, v1, h1, h2⟩ := h K (.mk u.head (u.args.set i w)) (some ⟨g, 0, none⟩) cap (Imm.le_trans hl hk) (by
    rw [hlen]
    show K b = some (.cells ((cs.set off (.int .i64 u.head)).set (off + 1) _).toArray _ _)
    rw [hset]
    exact hk _ _ hb) (RowT.rep (h := u.head) (c := cap) (ts := u.args.set i w) hcells hrow' hr (by simp [hn]; exact hnc) (by simp [hn]; exact hnb))
  refine ⟨v0, v1, h1, ?_⟩
  rw [putT_snoc q t u w i hat (by omega)]
  exact h2
end Go.Proofs.Ytdbadicpbmndbaa
/- Walks: another part put at a place, by the program. -/
set_option linter.unusedVariables false
set_option linter.unusedSimpArgs false
/- short -/
namespace Go.Proofs.Ytdbadicpbmndbaa
open Go Lg

end Go.Proofs.Ytdbadicpbmndbaa
/- Walks: the document's example on places. -/
set_option linter.unusedVariables false
set_option linter.unusedSimpArgs false
/- short -/
namespace Go.Proofs.Ytdbadicpbmndbaa
open Go Lg

theorem Fun_does {I : Imm} {h : Int} {s : Value} {ts : List T} (hh : InR h) (hs : RepS I s ts) :
    Does Try.prog 62 [.int .i64 h, s] I [] (fun v I' δ' => RepT I' v (.mk h ts) ∧ δ' = []) := by
  have hs' := hs
  obtain ⟨ad, c, ss, ts, hc, hb, hat, hr, hsub⟩ := hs
  refine Does.intro Try.func62 rfl Try.ntmps62 rfl fun w0 => ?_
  refine code_seq ?_
  refine code_region ?_
  refine o_alloc z47 rfl rfl (fun b4 => ?_)
  refine ops_nil ?_
  refine post_next ?_
  refine code_seq ?_
  refine code_region ?_
  refine op_v (v_move rfl) rfl ?_
  refine op_v (v_move rfl) rfl ?_
  refine op_v (v_build bl47 rfl rfl) rfl ?_
  refine o_store ty47 rfl rfl rfl rfl rfl (by repeat (first | exact Swap.here | apply Swap.there)) rfl ?_
  refine ops_nil ?_
  refine post_next ?_
  refine code_ret ?_
  refine post_ret (rs := [.cell 4 47]) rfl (List.Perm.refl _) (.cons (.cell rfl ty47 (by repeat (first | exact Has.here | apply Has.there)) rfl) .nil) (List.nil_sublist _) ?_
  exact ⟨RepT.mk _ (.mk h ts) hh hs', rfl⟩
theorem Var_does {I : Imm} {n : Int} (h0 : 0 ≤ n) (h1 : n ≤ 1000000000) :
    Does Try.prog 61 [.int .i64 n] I [] (fun v I' δ' => RepT I' v (.mk (-1 - n) []) ∧ δ' = []) := by
  refine Does.intro Try.func61 rfl Try.ntmps61 rfl fun w0 => ?_
  refine code_seq ?_
  refine code_region ?_
  refine o_alloc z47 rfl rfl (fun b2 => ?_)
  refine ops_nil ?_
  refine post_next ?_
  refine code_seq ?_
  refine code_region ?_
  refine op_v (v_move rfl) rfl ?_
  refine op_v (v_subb rfl rfl rfl (by omega)) rfl ?_
  refine op_v (v_build bl47 rfl rfl) rfl ?_
  refine o_store ty47 rfl rfl rfl rfl rfl (by repeat (first | exact Swap.here | apply Swap.there)) rfl ?_
  refine ops_nil ?_
  refine post_next ?_
  refine code_ret ?_
  refine post_ret (rs := [.cell 2 47]) rfl (List.Perm.refl _) (.cons (.cell rfl ty47 (by repeat (first | exact Has.here | apply Has.there)) rfl) .nil) (List.nil_sublist _) ?_
  exact ⟨RepT.mk _ (.mk (-1 - n) []) (by unfold InR; simp [T.head]; omega) (RepS.nil _), rfl⟩
theorem RowT.repS {I : Imm} {ad : Option Addr} {n c : Nat} {xs : List Value} {ts : List T} (hn : n = ts.length) (hc : Cells I ad xs) (hr : RowT I xs ts) (hle : n ≤ c) (hb : n ≤ 4398046511104) : RepS I (.slice ad n c) ts := by
  subst hn
  exact RepT.args (RowT.rep (h := 0) hc hr (by unfold InR; omega) hle hb)
theorem RInts.lit {I : Imm} {ad : Option Addr} {n c : Nat} {xs : List Int} (hat : Cells I ad (xs.map (Value.int .i64))) (hc : n ≤ c) (hr : xs.all (fun x => decide (0 ≤ x ∧ x ≤ 1000)) = true) (hn : n = xs.length := by rfl) (hb : n ≤ 17592186044416 := by decide) : RInts I (.slice ad n c) xs :=
  RInts.of hn hc hb hat (fun x hx => by have := List.all_eq_true.1 hr x hx; simp at this; unfold InR; omega)

end Go.Proofs.Ytdbadicpbmndbaa
/- Walks: variables and rightness of a term, by the program. -/
set_option linter.unusedVariables false
set_option linter.unusedSimpArgs false
/- short -/
namespace Go.Proofs.Ytdbadicpbmndbaa
open Go Lg

def varsP (l : List (Nat × T)) : List Int := l.foldl (fun acc x => if 0 ≤ -1 - x.2.head ∧ -1 - x.2.head ∉ acc then acc ++ [-1 - x.2.head] else acc) []
theorem varsP_snoc (l : List (Nat × T)) (x : Nat × T) : varsP (l ++ [x]) = if 0 ≤ -1 - x.2.head ∧ -1 - x.2.head ∉ varsP l then varsP l ++ [-1 - x.2.head] else varsP l := by simp [varsP]
def badN (x : Nat × T) : Bool := (decide (x.2.head < 0) && decide (0 < x.2.args.length)) || decide (x.2.head < -256) || decide (1023 < x.2.head) || decide (8 < x.2.args.length)
def chkT (t : T) : Int := if 400 < t.size then 2 else if 40 < depT t then 7 else if (partsT 1 t).any badN then 1 else 0
theorem TCheck_does {I : Imm} {v : Value} {t : T} (hv : RepT I v t) (hbig : t.size ≤ 1000000000) :
    Does Try.prog 105 [v] I [] (fun v I' δ' => v = .int .i64 (chkT t) ∧ δ' = []) := by
  obtain ⟨ad, c, rfl, hr0⟩ := hv.shape
  refine Does.intro Try.func105 rfl Try.ntmps105 rfl fun w0 => ?_
  refine code_seq ?_
  refine code_region ?_
  refine o_box rfl rfl rfl (fun b1 => ?_)
  refine op_v (v_assign rfl) rfl ?_
  refine ops_nil ?_
  refine post_next ?_
  refine code_seq ?_
  refine code_region ?_
  refine o_alloc z3 rfl rfl (fun b3 => ?_)
  refine o_alloc z3 rfl rfl (fun b4 => ?_)
  refine o_alloc z4 rfl rfl (fun b5 => ?_)
  refine o_store ty3 rfl rfl rfl rfl rfl (by repeat (first | exact Swap.here | apply Swap.there)) rfl ?_
  refine o_store ty3 rfl rfl rfl rfl rfl (by repeat (first | exact Swap.here | apply Swap.there)) rfl ?_
  refine o_store ty4 rfl rfl rfl rfl rfl (by repeat (first | exact Swap.here | apply Swap.there)) rfl ?_
  refine ops_nil ?_
  refine post_next ?_
  refine code_seq ?_
  refine code_seq ?_
  refine code_region ?_
  refine op_v (v_loadA ty47 rfl rfl) rfl ?_
  refine op_call pl127 rfl rfl ((parts_does)) Parts.none ?_
  rintro v9 I9 _ hI9 ⟨b9, rfl, rfl⟩
  refine ops_nil ?_
  refine post_next ?_
  refine code_block ?_
  refine code_range (δb := [_, _, _]) (B := fun l I' δ' => δ' = [.box b5 4 [.bool (l.any badN)], .box b4 3 [.int .i64 (deepP l)], .box b3 3 [.int .i64 l.length]]) rfl rfl pl160 rfl (parts_iter (hv.mono hI9) hbig) (List.Perm.refl _) rfl (by rintro _ _ _ ⟨_, _, rfl, _⟩; rfl) (by rintro l I1 I2 _ hle rfl; rfl) ?_ ?_
  · rintro l r w1 pre x post I2 _ _ hrs hrp hx hI2 rfl ⟨xa, xc, rfl, hxv⟩
    have hpl := congrArg List.length hx
    simp only [partsT_length, List.length_append, List.length_cons] at hpl
    have hlen : ((pre ++ [x]).length : Int) = (pre.length : Int) + 1 := by simp
    have hdp : ((deepP (pre ++ [x]) : Nat) : Int) = max ((deepP pre : Nat) : Int) (x.1 : Int) := by rw [deepP_snoc]; omega
    have hany : (pre ++ [x]).any badN = (pre.any badN || badN x) := by simp
    refine code_seq ?_
    refine code_region ?_
    refine op_v (v_assign rfl) rfl ?_
    refine ops_nil ?_
    refine post_next ?_
    refine code_region ?_
    refine o_alloc z47 rfl rfl (fun b7 => ?_)
    refine o_store ty47 rfl rfl rfl rfl rfl (by repeat (first | exact Swap.here | apply Swap.there)) rfl ?_
    refine ops_nil ?_
    refine post_begin hrs (Swap.there Swap.here) ?_
    refine code_block ?_
    refine code_seq ?_
    refine code_draw (.fl 0 (.fl 1 (.fl 2 (.fl 3 (.fl 4 (.ef 5 (.ef 6 .done))))))) (two 2 [.box b3 3 [.int .i64 pre.length]] [.box b4 3 [.int .i64 (deepP pre)]]) mixed (by kernel_rfl) (by kernel_rfl) (two_sub (List.Sublist.cons _ (List.Sublist.cons _ (List.Sublist.cons _ (List.Sublist.cons _ (List.Sublist.refl _))))) (List.Sublist.cons _ (List.Sublist.cons _ (List.Sublist.cons _ (List.Sublist.cons_cons _ (List.nil_sublist _)))))) ?_
    refine e_float rfl rfl (fun hs_ => PF.mk rfl (v_loadA ty3 rfl rfl) hs_) Imm.leA (by intro x hx; change x ∈ [_] at hx; rw [List.mem_singleton] at hx; subst hx; simp) ?_
    refine e_float rfl rfl (fun hs_ => PF.mk rfl (v_addb rfl rfl rfl (by omega)) hs_) Imm.leA (by intro x hx; change x ∈ [_] at hx; rw [List.mem_singleton] at hx; subst hx; simp) ?_
    refine e_float rfl rfl (fun hs_ => PF.mk rfl (v_loadA ty3 rfl rfl) hs_) Imm.leA (by intro x hx; change x ∈ [_] at hx; rw [List.mem_singleton] at hx; subst hx; simp) ?_
    refine e_float rfl rfl (fun hs_ => PF.mk rfl (v_move rfl) hs_) Imm.leA (by intro x hx; change x ∈ [_] at hx; rw [List.mem_singleton] at hx; subst hx; simp) ?_
    refine e_float rfl rfl (fun hs_ => PF.mk rfl (v_max rfl rfl) hs_) Imm.leA (by intro x hx; change x ∈ [_] at hx; rw [List.mem_singleton] at hx; subst hx; simp) ?_
    refine e_eff rfl (by intro cs b hc; cases hc) (by intro c hc; cases hc) ?_
    refine o_store ty3 rfl rfl rfl rfl rfl (by repeat (first | exact Swap.here | apply Swap.there)) rfl ?_
    refine ops_nil ?_
    refine e_next_ (side_two (by kernel_rfl) (Imm.le_refl _) (by intro x hx; rw [List.mem_singleton] at hx; subst hx; simp)) ?_
    refine e_eff rfl (by intro cs b hc; cases hc) (by intro c hc; cases hc) ?_
    refine o_store ty3 rfl rfl rfl rfl rfl (by repeat (first | exact Swap.here | apply Swap.there)) rfl ?_
    refine ops_nil ?_
    refine e_next_ (side_nil (by kernel_rfl)) ?_
    refine e_done ?_
    refine post_next ?_
    refine code_region ?_
    refine op_v (v_loadA ty4 rfl rfl) rfl ?_
    by_cases hw : pre.any badN = true
    · rw [hw]
      refine op_v (v_move rfl) rfl ?_
      refine op_skip rfl rfl (by simp [undef]) rfl ?_
      refine op_skip rfl rfl (by simp [undef]) rfl ?_
      refine op_skip rfl rfl (by simp [undef]) rfl ?_
      refine op_skip rfl rfl (by simp [undef]) rfl ?_
      refine op_skip rfl rfl (by simp [undef]) rfl ?_
      refine op_skip rfl rfl (by simp [undef]) rfl ?_
      refine op_skip rfl rfl (by simp [undef]) rfl ?_
      refine op_skip rfl rfl (by simp [undef]) rfl ?_
      refine op_skip rfl rfl (by simp [undef]) rfl ?_
      refine op_v (v_pickt rfl rfl) rfl ?_
      refine op_v (v_move rfl) rfl ?_
      refine op_skip rfl rfl (by simp [undef]) rfl ?_
      refine op_skip rfl rfl (by simp [undef]) rfl ?_
      refine op_skip rfl rfl (by simp [undef]) rfl ?_
      refine op_v (v_pickt rfl rfl) rfl ?_
      refine op_v (v_move rfl) rfl ?_
      refine op_skip rfl rfl (by simp [undef]) rfl ?_
      refine op_skip rfl rfl (by simp [undef]) rfl ?_
      refine op_skip rfl rfl (by simp [undef]) rfl ?_
      refine op_v (v_pickt rfl rfl) rfl ?_
      refine op_v (v_move rfl) rfl ?_
      refine op_skip rfl rfl (by simp [undef]) rfl ?_
      refine op_skip rfl rfl (by simp [undef]) rfl ?_
      refine op_skip rfl rfl (by simp [undef]) rfl ?_
      refine op_skip rfl rfl (by simp [undef]) rfl ?_
      refine op_v (v_pickt rfl rfl) rfl ?_
      refine o_store ty4 rfl rfl rfl rfl rfl (by repeat (first | exact Swap.here | apply Swap.there)) rfl ?_
      refine ops_nil ?_
      refine post_out ?_
      refine PostJ.view (View.drop Del.here) ?_
      refine post_round Swap.here hrs hrp ⟨rfl, _, rfl, ?_⟩
      rw [hlen, hdp, hany]
      refine congrArg (fun q => [Ent.box b5 4 [.bool q], .box b4 3 [.int .i64 (max ((deepP pre : Nat) : Int) (x.1 : Int))], .box b3 3 [.int .i64 ((pre.length : Int) + 1)]]) (?_ : _ = (pre.any badN || badN x))
      clear hx hdp hany hlen hpl hv hxv hI9 hI2 hrs hrp
      rw [show pre.any badN = _ by assumption]
      simp [badN, *]
    · have hw' : pre.any badN = false := by simpa using hw
      rw [hw']
      refine op_v (v_move rfl) rfl ?_
      first
        | (refine op_want rfl rfl ?_
           refine op_v (v_fieldB 0 Try.underlying47 rfl rfl fz3 rfl) rfl ?_)
        | (refine op_skip rfl rfl (by simp [undef]) rfl ?_)
      refine op_want rfl rfl ?_
      refine op_v (v_loadA ty3 rfl rfl) rfl ?_
      by_cases h1 : x.2.head < 0
      · first
          | (refine op_want rfl rfl ?_
             refine op_v (v_cmptA rfl rfl rfl) rfl ?_)
          | (refine op_skip rfl rfl (by simp [undef]) rfl ?_)
        refine op_want rfl rfl ?_
        refine op_v (v_move rfl) rfl ?_
        first
          | (refine op_want rfl rfl ?_
             refine op_v (v_fieldB 1 Try.underlying47 rfl rfl fz45 rfl) rfl ?_)
          | (refine op_skip rfl rfl (by simp [undef]) rfl ?_)
        refine op_want rfl rfl ?_
        refine op_v (v_loadA ty45 rfl rfl) rfl ?_
        refine op_want rfl rfl ?_
        refine op_v (v_len Try.underlying45 rfl) rfl ?_
        by_cases h2 : 0 < x.2.args.length
        · first
            | (refine op_want rfl rfl ?_
               refine op_v (v_cmptA rfl rfl rfl) rfl ?_)
            | (refine op_skip rfl rfl (by simp [undef]) rfl ?_)
          first
            | (refine op_want rfl rfl ?_
               refine op_v (v_pickt rfl rfl) rfl ?_)
            | (refine op_skip rfl rfl (by simp [undef]) rfl ?_)
          refine op_v (v_pickf rfl rfl) rfl ?_
          refine op_v (v_move rfl) rfl ?_
          refine op_skip rfl rfl (by simp [undef]) rfl ?_
          refine op_skip rfl rfl (by simp [undef]) rfl ?_
          refine op_skip rfl rfl (by simp [undef]) rfl ?_
          refine op_v (v_pickt rfl rfl) rfl ?_
          refine op_v (v_move rfl) rfl ?_
          refine op_skip rfl rfl (by simp [undef]) rfl ?_
          refine op_skip rfl rfl (by simp [undef]) rfl ?_
          refine op_skip rfl rfl (by simp [undef]) rfl ?_
          refine op_v (v_pickt rfl rfl) rfl ?_
          refine op_v (v_move rfl) rfl ?_
          refine op_skip rfl rfl (by simp [undef]) rfl ?_
          refine op_skip rfl rfl (by simp [undef]) rfl ?_
          refine op_skip rfl rfl (by simp [undef]) rfl ?_
          refine op_skip rfl rfl (by simp [undef]) rfl ?_
          refine op_v (v_pickt rfl rfl) rfl ?_
          refine o_store ty4 rfl rfl rfl rfl rfl (by repeat (first | exact Swap.here | apply Swap.there)) rfl ?_
          refine ops_nil ?_
          refine post_out ?_
          refine PostJ.view (View.drop Del.here) ?_
          refine post_round Swap.here hrs hrp ⟨rfl, _, rfl, ?_⟩
          rw [hlen, hdp, hany]
          refine congrArg (fun q => [Ent.box b5 4 [.bool q], .box b4 3 [.int .i64 (max ((deepP pre : Nat) : Int) (x.1 : Int))], .box b3 3 [.int .i64 ((pre.length : Int) + 1)]]) (?_ : _ = (pre.any badN || badN x))
          clear hx hdp hany hlen hpl hv hxv hI9 hI2 hrs hrp
          rw [show pre.any badN = _ by assumption]
          simp [badN, *]
        · first
            | (refine op_want rfl rfl ?_
               refine op_v (v_cmpfA rfl rfl rfl) rfl ?_)
            | (refine op_skip rfl rfl (by simp [undef]) rfl ?_)
          first
            | (refine op_want rfl rfl ?_
               refine op_v (v_pickt rfl rfl) rfl ?_)
            | (refine op_skip rfl rfl (by simp [undef]) rfl ?_)
          refine op_v (v_pickf rfl rfl) rfl ?_
          refine op_v (v_move rfl) rfl ?_
          first
            | (refine op_want rfl rfl ?_
               refine op_v (v_fieldB 0 Try.underlying47 rfl rfl fz3 rfl) rfl ?_)
            | (refine op_skip rfl rfl (by simp [undef]) rfl ?_)
          refine op_want rfl rfl ?_
          refine op_v (v_loadA ty3 rfl rfl) rfl ?_
          by_cases h3 : x.2.head < -256
          · first
              | (refine op_want rfl rfl ?_
                 refine op_v (v_cmptA rfl rfl rfl) rfl ?_)
              | (refine op_skip rfl rfl (by simp [undef]) rfl ?_)
            refine op_v (v_pickf rfl rfl) rfl ?_
            refine op_v (v_move rfl) rfl ?_
            refine op_skip rfl rfl (by simp [undef]) rfl ?_
            refine op_skip rfl rfl (by simp [undef]) rfl ?_
            refine op_skip rfl rfl (by simp [undef]) rfl ?_
            refine op_v (v_pickt rfl rfl) rfl ?_
            refine op_v (v_move rfl) rfl ?_
            refine op_skip rfl rfl (by simp [undef]) rfl ?_
            refine op_skip rfl rfl (by simp [undef]) rfl ?_
            refine op_skip rfl rfl (by simp [undef]) rfl ?_
            refine op_skip rfl rfl (by simp [undef]) rfl ?_
            refine op_v (v_pickt rfl rfl) rfl ?_
            refine o_store ty4 rfl rfl rfl rfl rfl (by repeat (first | exact Swap.here | apply Swap.there)) rfl ?_
            refine ops_nil ?_
            refine post_out ?_
            refine PostJ.view (View.drop Del.here) ?_
            refine post_round Swap.here hrs hrp ⟨rfl, _, rfl, ?_⟩
            rw [hlen, hdp, hany]
            refine congrArg (fun q => [Ent.box b5 4 [.bool q], .box b4 3 [.int .i64 (max ((deepP pre : Nat) : Int) (x.1 : Int))], .box b3 3 [.int .i64 ((pre.length : Int) + 1)]]) (?_ : _ = (pre.any badN || badN x))
            clear hx hdp hany hlen hpl hv hxv hI9 hI2 hrs hrp
            rw [show pre.any badN = _ by assumption]
            simp [badN, *]
          · first
              | (refine op_want rfl rfl ?_
                 refine op_v (v_cmpfA rfl rfl rfl) rfl ?_)
              | (refine op_skip rfl rfl (by simp [undef]) rfl ?_)
            refine op_v (v_pickf rfl rfl) rfl ?_
            refine op_v (v_move rfl) rfl ?_
            first
              | (refine op_want rfl rfl ?_
                 refine op_v (v_fieldB 0 Try.underlying47 rfl rfl fz3 rfl) rfl ?_)
              | (refine op_skip rfl rfl (by simp [undef]) rfl ?_)
            refine op_want rfl rfl ?_
            refine op_v (v_loadA ty3 rfl rfl) rfl ?_
            by_cases h4 : 1023 < x.2.head
            · first
                | (refine op_want rfl rfl ?_
                   refine op_v (v_cmptA rfl rfl rfl) rfl ?_)
                | (refine op_skip rfl rfl (by simp [undef]) rfl ?_)
              refine op_v (v_pickf rfl rfl) rfl ?_
              refine op_v (v_move rfl) rfl ?_
              refine op_skip rfl rfl (by simp [undef]) rfl ?_
              refine op_skip rfl rfl (by simp [undef]) rfl ?_
              refine op_skip rfl rfl (by simp [undef]) rfl ?_
              refine op_skip rfl rfl (by simp [undef]) rfl ?_
              refine op_v (v_pickt rfl rfl) rfl ?_
              refine o_store ty4 rfl rfl rfl rfl rfl (by repeat (first | exact Swap.here | apply Swap.there)) rfl ?_
              refine ops_nil ?_
              refine post_out ?_
              refine PostJ.view (View.drop Del.here) ?_
              refine post_round Swap.here hrs hrp ⟨rfl, _, rfl, ?_⟩
              rw [hlen, hdp, hany]
              refine congrArg (fun q => [Ent.box b5 4 [.bool q], .box b4 3 [.int .i64 (max ((deepP pre : Nat) : Int) (x.1 : Int))], .box b3 3 [.int .i64 ((pre.length : Int) + 1)]]) (?_ : _ = (pre.any badN || badN x))
              clear hx hdp hany hlen hpl hv hxv hI9 hI2 hrs hrp
              rw [show pre.any badN = _ by assumption]
              simp [badN, *]
            · first
                | (refine op_want rfl rfl ?_
                   refine op_v (v_cmpfA rfl rfl rfl) rfl ?_)
                | (refine op_skip rfl rfl (by simp [undef]) rfl ?_)
              refine op_v (v_pickf rfl rfl) rfl ?_
              refine op_v (v_move rfl) rfl ?_
              first
                | (refine op_want rfl rfl ?_
                   refine op_v (v_fieldB 1 Try.underlying47 rfl rfl fz45 rfl) rfl ?_)
                | (refine op_skip rfl rfl (by simp [undef]) rfl ?_)
              refine op_want rfl rfl ?_
              refine op_v (v_loadA ty45 rfl rfl) rfl ?_
              refine op_want rfl rfl ?_
              refine op_v (v_len Try.underlying45 rfl) rfl ?_
              by_cases h5 : 8 < x.2.args.length
              · first
                  | (refine op_want rfl rfl ?_
                     refine op_v (v_cmptA rfl rfl rfl) rfl ?_)
                  | (refine op_skip rfl rfl (by simp [undef]) rfl ?_)
                refine op_v (v_pickf rfl rfl) rfl ?_
                refine o_store ty4 rfl rfl rfl rfl rfl (by repeat (first | exact Swap.here | apply Swap.there)) rfl ?_
                refine ops_nil ?_
                refine post_out ?_
                refine PostJ.view (View.drop Del.here) ?_
                refine post_round Swap.here hrs hrp ⟨rfl, _, rfl, ?_⟩
                rw [hlen, hdp, hany]
                refine congrArg (fun q => [Ent.box b5 4 [.bool q], .box b4 3 [.int .i64 (max ((deepP pre : Nat) : Int) (x.1 : Int))], .box b3 3 [.int .i64 ((pre.length : Int) + 1)]]) (?_ : _ = (pre.any badN || badN x))
                clear hx hdp hany hlen hpl hv hxv hI9 hI2 hrs hrp
                rw [show pre.any badN = _ by assumption]
                simp [badN, *]
              · first
                  | (refine op_want rfl rfl ?_
                     refine op_v (v_cmpfA rfl rfl rfl) rfl ?_)
                  | (refine op_skip rfl rfl (by simp [undef]) rfl ?_)
                refine op_v (v_pickf rfl rfl) rfl ?_
                refine o_store ty4 rfl rfl rfl rfl rfl (by repeat (first | exact Swap.here | apply Swap.there)) rfl ?_
                refine ops_nil ?_
                refine post_out ?_
                refine PostJ.view (View.drop Del.here) ?_
                refine post_round Swap.here hrs hrp ⟨rfl, _, rfl, ?_⟩
                rw [hlen, hdp, hany]
                refine congrArg (fun q => [Ent.box b5 4 [.bool q], .box b4 3 [.int .i64 (max ((deepP pre : Nat) : Int) (x.1 : Int))], .box b3 3 [.int .i64 ((pre.length : Int) + 1)]]) (?_ : _ = (pre.any badN || badN x))
                clear hx hdp hany hlen hpl hv hxv hI9 hI2 hrs hrp
                rw [show pre.any badN = _ by assumption]
                simp [badN, *]
      · first
          | (refine op_want rfl rfl ?_
             refine op_v (v_cmpfA rfl rfl rfl) rfl ?_)
          | (refine op_skip rfl rfl (by simp [undef]) rfl ?_)
        refine op_want rfl rfl ?_
        refine op_v (v_move rfl) rfl ?_
        refine op_skip rfl rfl (by simp [undef]) rfl ?_
        refine op_skip rfl rfl (by simp [undef]) rfl ?_
        refine op_skip rfl rfl (by simp [undef]) rfl ?_
        refine op_skip rfl rfl (by simp [undef]) rfl ?_
        first
          | (refine op_want rfl rfl ?_
             refine op_v (v_pickf rfl rfl) rfl ?_)
          | (refine op_skip rfl rfl (by simp [undef]) rfl ?_)
        refine op_v (v_pickf rfl rfl) rfl ?_
        refine op_v (v_move rfl) rfl ?_
        first
          | (refine op_want rfl rfl ?_
             refine op_v (v_fieldB 0 Try.underlying47 rfl rfl fz3 rfl) rfl ?_)
          | (refine op_skip rfl rfl (by simp [undef]) rfl ?_)
        refine op_want rfl rfl ?_
        refine op_v (v_loadA ty3 rfl rfl) rfl ?_
        by_cases h3 : x.2.head < -256
        · first
            | (refine op_want rfl rfl ?_
               refine op_v (v_cmptA rfl rfl rfl) rfl ?_)
            | (refine op_skip rfl rfl (by simp [undef]) rfl ?_)
          refine op_v (v_pickf rfl rfl) rfl ?_
          refine op_v (v_move rfl) rfl ?_
          refine op_skip rfl rfl (by simp [undef]) rfl ?_
          refine op_skip rfl rfl (by simp [undef]) rfl ?_
          refine op_skip rfl rfl (by simp [undef]) rfl ?_
          refine op_v (v_pickt rfl rfl) rfl ?_
          refine op_v (v_move rfl) rfl ?_
          refine op_skip rfl rfl (by simp [undef]) rfl ?_
          refine op_skip rfl rfl (by simp [undef]) rfl ?_
          refine op_skip rfl rfl (by simp [undef]) rfl ?_
          refine op_skip rfl rfl (by simp [undef]) rfl ?_
          refine op_v (v_pickt rfl rfl) rfl ?_
          refine o_store ty4 rfl rfl rfl rfl rfl (by repeat (first | exact Swap.here | apply Swap.there)) rfl ?_
          refine ops_nil ?_
          refine post_out ?_
          refine PostJ.view (View.drop Del.here) ?_
          refine post_round Swap.here hrs hrp ⟨rfl, _, rfl, ?_⟩
          rw [hlen, hdp, hany]
          refine congrArg (fun q => [Ent.box b5 4 [.bool q], .box b4 3 [.int .i64 (max ((deepP pre : Nat) : Int) (x.1 : Int))], .box b3 3 [.int .i64 ((pre.length : Int) + 1)]]) (?_ : _ = (pre.any badN || badN x))
          clear hx hdp hany hlen hpl hv hxv hI9 hI2 hrs hrp
          rw [show pre.any badN = _ by assumption]
          simp [badN, *]
        · first
            | (refine op_want rfl rfl ?_
               refine op_v (v_cmpfA rfl rfl rfl) rfl ?_)
            | (refine op_skip rfl rfl (by simp [undef]) rfl ?_)
          refine op_v (v_pickf rfl rfl) rfl ?_
          refine op_v (v_move rfl) rfl ?_
          first
            | (refine op_want rfl rfl ?_
               refine op_v (v_fieldB 0 Try.underlying47 rfl rfl fz3 rfl) rfl ?_)
            | (refine op_skip rfl rfl (by simp [undef]) rfl ?_)
          refine op_want rfl rfl ?_
          refine op_v (v_loadA ty3 rfl rfl) rfl ?_
          by_cases h4 : 1023 < x.2.head
          · first
              | (refine op_want rfl rfl ?_
                 refine op_v (v_cmptA rfl rfl rfl) rfl ?_)
              | (refine op_skip rfl rfl (by simp [undef]) rfl ?_)
            refine op_v (v_pickf rfl rfl) rfl ?_
            refine op_v (v_move rfl) rfl ?_
            refine op_skip rfl rfl (by simp [undef]) rfl ?_
            refine op_skip rfl rfl (by simp [undef]) rfl ?_
            refine op_skip rfl rfl (by simp [undef]) rfl ?_
            refine op_skip rfl rfl (by simp [undef]) rfl ?_
            refine op_v (v_pickt rfl rfl) rfl ?_
            refine o_store ty4 rfl rfl rfl rfl rfl (by repeat (first | exact Swap.here | apply Swap.there)) rfl ?_
            refine ops_nil ?_
            refine post_out ?_
            refine PostJ.view (View.drop Del.here) ?_
            refine post_round Swap.here hrs hrp ⟨rfl, _, rfl, ?_⟩
            rw [hlen, hdp, hany]
            refine congrArg (fun q => [Ent.box b5 4 [.bool q], .box b4 3 [.int .i64 (max ((deepP pre : Nat) : Int) (x.1 : Int))], .box b3 3 [.int .i64 ((pre.length : Int) + 1)]]) (?_ : _ = (pre.any badN || badN x))
            clear hx hdp hany hlen hpl hv hxv hI9 hI2 hrs hrp
            rw [show pre.any badN = _ by assumption]
            simp [badN, *]
          · first
              | (refine op_want rfl rfl ?_
                 refine op_v (v_cmpfA rfl rfl rfl) rfl ?_)
              | (refine op_skip rfl rfl (by simp [undef]) rfl ?_)
            refine op_v (v_pickf rfl rfl) rfl ?_
            refine op_v (v_move rfl) rfl ?_
            first
              | (refine op_want rfl rfl ?_
                 refine op_v (v_fieldB 1 Try.underlying47 rfl rfl fz45 rfl) rfl ?_)
              | (refine op_skip rfl rfl (by simp [undef]) rfl ?_)
            refine op_want rfl rfl ?_
            refine op_v (v_loadA ty45 rfl rfl) rfl ?_
            refine op_want rfl rfl ?_
            refine op_v (v_len Try.underlying45 rfl) rfl ?_
            by_cases h5 : 8 < x.2.args.length
            · first
                | (refine op_want rfl rfl ?_
                   refine op_v (v_cmptA rfl rfl rfl) rfl ?_)
                | (refine op_skip rfl rfl (by simp [undef]) rfl ?_)
              refine op_v (v_pickf rfl rfl) rfl ?_
              refine o_store ty4 rfl rfl rfl rfl rfl (by repeat (first | exact Swap.here | apply Swap.there)) rfl ?_
              refine ops_nil ?_
              refine post_out ?_
              refine PostJ.view (View.drop Del.here) ?_
              refine post_round Swap.here hrs hrp ⟨rfl, _, rfl, ?_⟩
              rw [hlen, hdp, hany]
              refine congrArg (fun q => [Ent.box b5 4 [.bool q], .box b4 3 [.int .i64 (max ((deepP pre : Nat) : Int) (x.1 : Int))], .box b3 3 [.int .i64 ((pre.length : Int) + 1)]]) (?_ : _ = (pre.any badN || badN x))
              clear hx hdp hany hlen hpl hv hxv hI9 hI2 hrs hrp
              rw [show pre.any badN = _ by assumption]
              simp [badN, *]
            · first
                | (refine op_want rfl rfl ?_
                   refine op_v (v_cmpfA rfl rfl rfl) rfl ?_)
                | (refine op_skip rfl rfl (by simp [undef]) rfl ?_)
              refine op_v (v_pickf rfl rfl) rfl ?_
              refine o_store ty4 rfl rfl rfl rfl rfl (by repeat (first | exact Swap.here | apply Swap.there)) rfl ?_
              refine ops_nil ?_
              refine post_out ?_
              refine PostJ.view (View.drop Del.here) ?_
              refine post_round Swap.here hrs hrp ⟨rfl, _, rfl, ?_⟩
              rw [hlen, hdp, hany]
              refine congrArg (fun q => [Ent.box b5 4 [.bool q], .box b4 3 [.int .i64 (max ((deepP pre : Nat) : Int) (x.1 : Int))], .box b3 3 [.int .i64 ((pre.length : Int) + 1)]]) (?_ : _ = (pre.any badN || badN x))
              clear hx hdp hany hlen hpl hv hxv hI9 hI2 hrs hrp
              rw [show pre.any badN = _ by assumption]
              simp [badN, *]
  · rintro blk I3 _ hI3 rfl
    refine post_out ?_
    refine post_next ?_
    refine code_seq ?_
    refine code_block ?_
    refine code_seq ?_
    refine code_region ?_
    rw [dep_deep, partsT_length]
    refine op_v (v_loadA ty3 rfl rfl) rfl ?_
    by_cases hq1 : 400 < t.size
    · refine op_v (v_cmptA rfl rfl rfl) rfl ?_
      refine op_v (v_assign rfl) rfl ?_
      refine ops_nil ?_
      refine post_next ?_
      refine code_cond_t rfl ?_
      refine code_seq ?_
      refine code_region ?_
      refine op_v (v_assign rfl) rfl ?_
      refine ops_nil ?_
      refine post_next ?_
      refine code_ret ?_
      refine post_ret_block ?_
      refine post_ret_then ?_
      refine post_ret (rs := [.tmp 2]) rfl (List.Perm.refl _) (.cons (.tmp rfl) .nil) (List.nil_sublist _) ?_
      exact ⟨by simp [outV, chkT, *], rfl⟩
    · refine op_v (v_cmpfA rfl rfl rfl) rfl ?_
      refine op_v (v_assign rfl) rfl ?_
      refine ops_nil ?_
      refine post_next ?_
      refine code_cond_f rfl ?_
      refine code_seq ?_
      refine code_region ?_
      refine op_v (v_loadA ty3 rfl rfl) rfl ?_
      by_cases hq2 : 40 < depT t
      · refine op_v (v_cmptA rfl rfl rfl) rfl ?_
        refine op_v (v_assign rfl) rfl ?_
        refine ops_nil ?_
        refine post_next ?_
        refine code_cond_t rfl ?_
        refine code_seq ?_
        refine code_region ?_
        refine op_v (v_assign rfl) rfl ?_
        refine ops_nil ?_
        refine post_next ?_
        refine code_ret ?_
        refine post_ret_block ?_
        refine post_ret_then ?_
        refine post_ret (rs := [.tmp 2]) rfl (List.Perm.refl _) (.cons (.tmp rfl) .nil) (List.nil_sublist _) ?_
        exact ⟨by simp [outV, chkT, *], rfl⟩
      · refine op_v (v_cmpfA rfl rfl rfl) rfl ?_
        refine op_v (v_assign rfl) rfl ?_
        refine ops_nil ?_
        refine post_next ?_
        refine code_cond_f rfl ?_
        refine code_seq ?_
        refine code_region ?_
        by_cases hq3 : (partsT 1 t).any badN = true
        · rw [hq3]
          refine op_v (v_loadA ty4 rfl rfl) rfl ?_
          refine op_v (v_assign rfl) rfl ?_
          refine ops_nil ?_
          refine post_next ?_
          refine code_cond_t rfl ?_
          refine code_seq ?_
          refine code_region ?_
          refine op_v (v_assign rfl) rfl ?_
          refine ops_nil ?_
          refine post_next ?_
          refine code_ret ?_
          refine post_ret_block ?_
          refine post_ret_then ?_
          refine post_ret (rs := [.tmp 2]) rfl (List.Perm.refl _) (.cons (.tmp rfl) .nil) (List.nil_sublist _) ?_
          exact ⟨by simp [outV, chkT, *], rfl⟩
        · rw [show (partsT 1 t).any badN = false by simpa using hq3]
          refine op_v (v_loadA ty4 rfl rfl) rfl ?_
          refine op_v (v_assign rfl) rfl ?_
          refine ops_nil ?_
          refine post_next ?_
          refine code_cond_f rfl ?_
          refine code_skip ?_
          refine post_out ?_
          refine post_next ?_
          refine code_seq ?_
          refine code_region ?_
          refine op_v (v_assign rfl) rfl ?_
          refine ops_nil ?_
          refine post_next ?_
          refine code_ret ?_
          refine post_ret (rs := [.tmp 2]) rfl (List.Perm.refl _) (.cons (.tmp rfl) .nil) (List.nil_sublist _) ?_
          exact ⟨by simp [outV, chkT, *], rfl⟩
end Go.Proofs.Ytdbadicpbmndbaa
/- Walk: are two terms the same, by the program. -/
set_option linter.unusedVariables false
set_option linter.unusedSimpArgs false
/- short -/
namespace Go.Proofs.Ytdbadicpbmndbaa
open Go Lg

theorem RowT.take {I : Imm} {xs : List Value} {ts : List T} {x : T} (h : RowT I xs (ts ++ [x])) : RowT I (xs.take (ts.length * 2)) ts := by
  refine ⟨by rw [List.length_take, h.1]; simp only [List.length_append, List.length_cons, List.length_nil]; omega, fun i hi => ?_⟩
  obtain ⟨s, h1, h2, h3⟩ := h.2 i (by simp; omega)
  have e : (ts ++ [x])[i]'(by simp; omega) = ts[i] := List.getElem_append_left hi
  rw [e] at h1 h2 h3
  exact ⟨s, by rw [List.getElem?_take_of_lt (by omega)]; exact h1, by rw [List.getElem?_take_of_lt (by omega)]; exact h2, h3⟩
theorem RowT.last {I : Imm} {xs : List Value} {ts : List T} {x : T} (h : RowT I xs (ts ++ [x])) :
    ∃ s : Option Addr × Nat, ld true 2 (xs.drop (ts.length * 2)) = some (.agg #[.int .i64 x.head, .slice s.1 x.args.length s.2]) ∧ RepT I (.agg #[.int .i64 x.head, .slice s.1 x.args.length s.2]) x := by
  obtain ⟨s, h1, h2, h3⟩ := h.2 ts.length (by simp)
  have e : (ts ++ [x])[ts.length]'(by simp) = x := by simp
  rw [e] at h1 h2 h3
  refine ⟨s, ?_, h3⟩
  obtain ⟨l1, e1⟩ := List.getElem?_eq_some_iff.1 h1
  obtain ⟨l2, e2⟩ := List.getElem?_eq_some_iff.1 h2
  rw [List.drop_eq_getElem_cons l1, List.drop_eq_getElem_cons l2, e1, e2]
  rfl
/-- pairs of a stack of two rows -/
theorem same_cons {ls rs : List T} {x y : T} (hl : ls.length = rs.length) (hx : x.head = y.head) (hn : x.args.length = y.args.length) : (ls ++ [x] = rs ++ [y]) ↔ (ls ++ x.args = rs ++ y.args) := by
  constructor
  · intro h
    have := List.append_inj h hl
    obtain ⟨h1, h2⟩ := this
    simp at h2
    rw [h1, h2]
  · intro h
    obtain ⟨h1, h2⟩ := List.append_inj h hl
    obtain ⟨a, a2⟩ := x
    obtain ⟨b, b2⟩ := y
    simp only [T.head, T.args] at hx h2
    rw [h1, hx, h2]
theorem TSame_does {I : Imm} {v w : Value} {t u : T} (hv : RepT I v t) (hw : RepT I w u) (hbt : t.size ≤ 1000000000) (hbu : u.size ≤ 1000000000) :
    Does Try.prog 77 [v, w] I [] (fun v I' δ' => v = .bool (decide (t = u)) ∧ δ' = []) := by
  obtain ⟨ta, tc, rfl, _⟩ := hv.shape
  obtain ⟨ua, uc, rfl, _⟩ := hw.shape
  refine Does.intro Try.func77 rfl Try.ntmps77 rfl fun w0 => ?_
  refine code_seq ?_
  refine code_region ?_
  refine o_box rfl rfl rfl (fun b2 => ?_)
  refine o_box rfl rfl rfl (fun b3 => ?_)
  refine op_v (v_assign rfl) rfl ?_
  refine ops_nil ?_
  refine post_next ?_
  refine code_seq_meet (fun σ' I' δ' => ∃ b11 b13 : Nat, σ' = [(2, .pointer (some ⟨b2, 0, none⟩)), (3, .pointer (some ⟨b3, 0, none⟩)), (5, .slice (some ⟨b11, 0, none⟩) 1 1), (6, .slice (some ⟨b13, 0, none⟩) 1 1)] ∧ I = I' ∧ δ' = [.row (.slice (some ⟨b11, 0, none⟩) 1 1) 47 2 1 [.int .i64 t.head, .slice ta t.args.length tc], .row (.slice (some ⟨b13, 0, none⟩) 1 1) 47 2 1 [.int .i64 u.head, .slice ua u.args.length uc]]) ?_ ?_
  · refine code_draw (.fl 0 (.fl 2 (.two 1 3 (.fl 4 (.ef 3 (.ef 5 .done))) (.ef 1 (.ef 4 (.ef 5 .done)))))) (fun _ => [.box b3 47 [.int .i64 u.head, .slice ua u.args.length uc], .box b2 47 [.int .i64 t.head, .slice ta t.args.length tc]]) mixed (by kernel_rfl) (by kernel_rfl) (fun _ => (List.Sublist.refl _)) ?_
    refine e_float rfl rfl (fun hs_ => PF.mk rfl (v_loadA ty47 rfl rfl) hs_) Imm.leA (by intro x hx; simp only [List.mem_cons, List.not_mem_nil, or_false] at hx; rcases hx with rfl | rfl <;> simp [cellsL]) ?_
    refine e_float rfl rfl (fun hs_ => PF.mk rfl (v_loadA ty47 rfl rfl) hs_) Imm.leA (by intro x hx; simp only [List.mem_cons, List.not_mem_nil, or_false] at hx; rcases hx with rfl | rfl <;> simp [cellsL]) ?_
    refine e_two rfl (by intro cs b hc; cases hc) (by intro c hc; cases hc) rfl (by intro cs b hc; cases hc) (by intro c hc; cases hc) ?_ ?_
    · refine o_buildSlice (xs := [(Go.Operand.tmp 10)]) Try.underlying45 bs47 rfl rfl rfl rfl rfl (fun b11 => ?_)
      refine ops_nil ?_
      refine e_next rfl (side_all Imm.leA (fun _ => (by intro x hx; simp only [List.mem_cons, List.not_mem_nil, or_false] at hx; rcases hx with rfl | rfl <;> simp [cellsL]))) ?_
      refine e_float rfl rfl (fun hs_ => PF.mk rfl (v_assign rfl) hs_) Imm.leA (by intro x hx; simp only [List.mem_cons, List.not_mem_nil, or_false] at hx; rcases hx with rfl | rfl <;> simp [cellsL]) ?_
      refine e_eff rfl (by intro cs b hc; cases hc) (by intro c hc; cases hc) ?_
      refine o_buildSlice (xs := [(Go.Operand.tmp 12)]) Try.underlying45 bs47 rfl rfl rfl rfl rfl (fun b13 => ?_)
      refine ops_nil ?_
      refine e_next rfl (side_all Imm.leA (fun _ => (by intro x hx; simp only [List.mem_cons, List.not_mem_nil, or_false] at hx; rcases hx with rfl | rfl <;> simp [cellsL]))) ?_
      refine e_eff rfl (by intro cs b hc; cases hc) (by intro c hc; cases hc) ?_
      refine op_v (v_assign rfl) rfl ?_
      refine ops_nil ?_
      refine e_next rfl (side_nil (by kernel_rfl)) ?_
      refine e_done ?_
      refine PostJ.view ((View.perm (List.Perm.swap _ _ _)).trans (View.sub (List.Sublist.cons_cons _ (List.Sublist.cons_cons _ (List.nil_sublist _))))) ?_
      exact post_meet _ ⟨b11, b13, rfl, rfl, rfl⟩ ⟨rfl, rfl, rfl, rfl, trivial⟩
    · refine o_buildSlice (xs := [(Go.Operand.tmp 12)]) Try.underlying45 bs47 rfl rfl rfl rfl rfl (fun b13 => ?_)
      refine ops_nil ?_
      refine e_next rfl (side_all Imm.leA (fun _ => (by intro x hx; simp only [List.mem_cons, List.not_mem_nil, or_false] at hx; rcases hx with rfl | rfl <;> simp [cellsL]))) ?_
      refine e_eff rfl (by intro cs b hc; cases hc) (by intro c hc; cases hc) ?_
      refine o_buildSlice (xs := [(Go.Operand.tmp 10)]) Try.underlying45 bs47 rfl rfl rfl rfl rfl (fun b11 => ?_)
      refine ops_nil ?_
      refine e_next rfl (side_nil (by kernel_rfl)) ?_
      refine e_eff rfl (by intro cs b hc; cases hc) (by intro c hc; cases hc) ?_
      refine op_v (v_assign rfl) rfl ?_
      refine ops_nil ?_
      refine e_next rfl (side_nil (by kernel_rfl)) ?_
      refine e_eff rfl (by intro cs b hc; cases hc) (by intro c hc; cases hc) ?_
      refine op_v (v_assign rfl) rfl ?_
      refine ops_nil ?_
      refine e_next rfl (side_nil (by kernel_rfl)) ?_
      refine e_done ?_
      refine PostJ.view (View.sub (List.Sublist.cons_cons _ (List.Sublist.cons_cons _ (List.nil_sublist _)))) ?_
      exact post_meet _ ⟨b11, b13, rfl, rfl, rfl⟩ ⟨rfl, rfl, rfl, rfl, trivial⟩
  · rintro _ _ _ ⟨b11, b13, rfl, rfl, rfl⟩
    refine code_seq ?_
    refine code_block ?_
    refine code_loop (fun m σ' I' δ' => ∃ (ls rs : List T) (la ra : Option Addr) (lc rc : Nat) (xs ys : List Value), m = sizeL ls ∧ ls.length = rs.length ∧ σ' = [(5, .slice la ls.length lc), (6, .slice ra ls.length rc)] ∧ I.le I' ∧ δ' = [.row (.slice la ls.length lc) 47 2 ls.length xs, .row (.slice ra ls.length rc) 47 2 ls.length ys] ∧ RowT I' xs ls ∧ RowT I' ys rs ∧ sizeL ls ≤ t.size ∧ (t = u ↔ ls = rs)) (sizeL [t]) [(5, .slice (some ⟨b11, 0, none⟩) 1 1), (6, .slice (some ⟨b13, 0, none⟩) 1 1)] ⟨[t], [u], _, _, _, _, _, _, rfl, rfl, rfl, Imm.le_refl _, rfl, RowT.one hv, RowT.one hw, by simp [sizeL], by simp⟩ ⟨rfl, rfl, trivial⟩ ?_
    rintro m _ I0 _ ⟨ls, rs, la, ra, lc, rc, xs, ys, rfl, hlr, rfl, hI0, rfl, hrl, hrr, hsz, hiff⟩
    refine code_seq ?_
    refine code_seq ?_
    refine code_region ?_
    refine op_v (v_move rfl) rfl ?_
    refine op_v (v_len Try.underlying45 rfl) rfl ?_
    refine op_v (v_cmp rfl rfl rfl) rfl ?_
    refine ops_nil ?_
    refine post_next ?_
    refine code_cond rfl (fun hc0 => ?_) (fun hc0 => ?_)
    · rcases List.eq_nil_or_concat ls with rfl | ⟨ls', x, rfl⟩
      · simp at hc0
      rcases List.eq_nil_or_concat rs with rfl | ⟨rs', y, rfl⟩
      · simp at hlr
      rw [List.concat_eq_append] at *
      rw [List.concat_eq_append] at *
      have hlen : (ls' ++ [x]).length = ls'.length + 1 := by simp
      have hlr' : ls'.length = rs'.length := by simpa using hlr
      rw [hlen]
      obtain ⟨⟨xa, xc⟩, hldx, hrx⟩ := hrl.last
      obtain ⟨⟨ya, yc⟩, hldy, hry⟩ := hrr.last
      rw [← hlr'] at hldy
      have hrl' := hrl.take
      have hrr' := hrr.take
      rw [← hlr'] at hrr'
      dsimp only at hldx hldy hrx hry
      have hszl := sizeL_len ls'
      have hszx := sizeL_len x.args
      have hsx : x.size = 1 + sizeL x.args := by cases x; simp [T.size, T.args]
      have hap := sizeL_app ls' [x]
      have hap2 := sizeL_app ls' x.args
      simp only [sizeL, Nat.add_zero] at hap
      refine code_skip ?_
      refine post_next ?_
      refine code_block ?_
      refine code_seq ?_
      refine code_region ?_
      refine OpsJ.rowSome Has.here (by omega) (fun hA hcl => ?_)
      refine OpsJ.rowSome (Has.there Has.here) (by omega) (fun hB hcr => ?_)
      refine op_v (v_move rfl) rfl ?_
      refine op_v (v_len Try.underlying45 rfl) rfl ?_
      refine op_v (v_subb rfl rfl rfl (by omega)) rfl ?_
      rw [show ((ls'.length + 1 : Nat) : Int) - 1 = (ls'.length : Nat) by omega]
      refine op_v (v_assign rfl) rfl ?_
      refine ops_nil ?_
      refine post_next ?_
      refine code_seq_meet (fun σ' I' δ' => ∃ b8 b9 : Nat, σ' = [(5, .slice la (ls'.length + 1) lc), (6, .slice ra (ls'.length + 1) rc), (7, .int .i64 (ls'.length : Nat)), (8, .pointer (some ⟨b8, 0, none⟩)), (9, .pointer (some ⟨b9, 0, none⟩))] ∧ I0 = I' ∧ δ' = [.box b8 47 [.int .i64 x.head, .slice xa x.args.length xc], .box b9 47 [.int .i64 y.head, .slice ya y.args.length yc], .row (.slice la (ls'.length + 1) lc) 47 2 (ls'.length + 1) xs, .row (.slice ra (ls'.length + 1) rc) 47 2 (ls'.length + 1) ys]) ?_ ?_
      · refine code_draw (.fl 0 (.fl 1 (.fl 2 (.fl 3 (.fl 4 (.fl 5 (.fl 6 (.fl 7 (.two 8 9 (.ef 9 (.ef 10 (.ef 11 .done))) (.ef 8 (.ef 10 (.ef 11 .done)))))))))))) (fun _ => _) mixed (by kernel_rfl) (by kernel_rfl) (fun _ => (List.Sublist.refl _)) ?_
        refine e_fl rfl rfl (fun hs_ => PF.mk rfl (v_move rfl) hs_) ?_
        refine e_fl rfl rfl (fun hs_ => PF.mk rfl (v_move rfl) hs_) ?_
        refine e_fl rfl rfl (fun hs_ => PF.mk rfl (v_indexA Try.underlying45 sz47 rfl rfl) hs_) ?_
        refine e_fl rfl rfl (fun hs_ => PF.mk rfl (v_loadRow ty47 rfl Has.here hA hldx) hs_) ?_
        refine e_fl rfl rfl (fun hs_ => PF.mk rfl (v_move rfl) hs_) ?_
        refine e_fl rfl rfl (fun hs_ => PF.mk rfl (v_move rfl) hs_) ?_
        refine e_fl rfl rfl (fun hs_ => PF.mk rfl (v_indexA Try.underlying45 sz47 rfl rfl) hs_) ?_
        refine e_fl rfl rfl (fun hs_ => PF.mk rfl (v_loadRow ty47 rfl (Has.there Has.here) hB hldy) hs_) ?_
        refine e_two rfl (by intro cs b hc; cases hc) (by intro c hc; cases hc) rfl (by intro cs b hc; cases hc) (by intro c hc; cases hc) ?_ ?_
        · refine o_alloc z47 rfl rfl (fun b8 => ?_)
          refine ops_nil ?_
          refine e_next rfl side_allA ?_
          refine e_eff rfl (by intro cs b hc; cases hc) (by intro c hc; cases hc) ?_
          refine o_alloc z47 rfl rfl (fun b9 => ?_)
          refine ops_nil ?_
          refine e_next rfl side_allA ?_
          refine e_eff rfl (by intro cs b hc; cases hc) (by intro c hc; cases hc) ?_
          refine o_store ty47 rfl rfl rfl rfl rfl (by repeat (first | exact Swap.here | apply Swap.there)) rfl ?_
          refine ops_nil ?_
          refine e_next_ side_allA ?_
          refine e_eff rfl (by intro cs b hc; cases hc) (by intro c hc; cases hc) ?_
          refine o_store ty47 rfl rfl rfl rfl rfl (by repeat (first | exact Swap.here | apply Swap.there)) rfl ?_
          refine ops_nil ?_
          refine e_next_ (side_nil (by kernel_rfl)) ?_
          refine e_done ?_
          refine PostJ.view (View.perm (List.Perm.swap _ _ _)) ?_
          exact post_meet _ ⟨b8, b9, rfl, rfl, rfl⟩ ⟨rfl, rfl, rfl, rfl, rfl, trivial⟩
        · refine o_alloc z47 rfl rfl (fun b9 => ?_)
          refine ops_nil ?_
          refine e_next rfl side_allA ?_
          refine e_eff rfl (by intro cs b hc; cases hc) (by intro c hc; cases hc) ?_
          refine o_alloc z47 rfl rfl (fun b8 => ?_)
          refine ops_nil ?_
          refine e_next rfl side_allA ?_
          refine e_eff rfl (by intro cs b hc; cases hc) (by intro c hc; cases hc) ?_
          refine o_store ty47 rfl rfl rfl rfl rfl (by repeat (first | exact Swap.here | apply Swap.there)) rfl ?_
          refine ops_nil ?_
          refine e_next_ side_allA ?_
          refine e_eff rfl (by intro cs b hc; cases hc) (by intro c hc; cases hc) ?_
          refine o_store ty47 rfl rfl rfl rfl rfl (by repeat (first | exact Swap.here | apply Swap.there)) rfl ?_
          refine ops_nil ?_
          refine e_next_ (side_nil (by kernel_rfl)) ?_
          refine e_done ?_
          exact post_meet _ ⟨b8, b9, rfl, rfl, rfl⟩ ⟨rfl, rfl, rfl, rfl, rfl, trivial⟩
      · rintro _ _ _ ⟨b8, b9, rfl, rfl, rfl⟩
        refine code_seq ?_
        refine code_draw (.fl 0 (.fl 1 (.fl 2 (.fl 3 (.fl 4 (.fl 5 (.ef 6 (.ef 7 .done)))))))) (fun _ => _) mixed (by kernel_rfl) (by kernel_rfl) (fun _ => (List.Sublist.refl _)) ?_
        refine e_fl rfl rfl (fun hs_ => PF.mk rfl (v_move rfl) hs_) ?_
        refine e_fl rfl rfl (fun hs_ => PF.mk rfl (v_move rfl) hs_) ?_
        refine e_fl rfl rfl (fun hs_ => PF.mk rfl (v_sliceTo Try.underlying45 sz47 rfl rfl (by omega)) hs_) ?_
        refine e_fl rfl rfl (fun hs_ => PF.mk rfl (v_move rfl) hs_) ?_
        refine e_fl rfl rfl (fun hs_ => PF.mk rfl (v_move rfl) hs_) ?_
        refine e_fl rfl rfl (fun hs_ => PF.mk rfl (v_sliceTo Try.underlying45 sz47 rfl rfl (by omega)) hs_) ?_
        refine e_eff rfl (by intro cs b hc; cases hc) (by intro c hc; cases hc) ?_
        refine op_v (v_assign rfl) rfl ?_
        refine ops_nil ?_
        refine e_next rfl side_allA ?_
        refine e_eff rfl (by intro cs b hc; cases hc) (by intro c hc; cases hc) ?_
        refine op_v (v_assign rfl) rfl ?_
        refine ops_nil ?_
        refine e_next rfl (side_nil (by kernel_rfl)) ?_
        refine e_done ?_
        refine post_next ?_
        refine code_seq ?_
        refine code_seq ?_
        refine code_region ?_
        refine OpsJ.view ((View.short _ (Swap.there (Swap.there Swap.here)) (Nat.le_succ _)).trans (View.short _ (Swap.there (Swap.there (Swap.there Swap.here))) (Nat.le_succ _))) ?_
        refine op_v (v_fieldB 0 Try.underlying47 rfl rfl fz3 rfl) rfl ?_
        refine op_v (v_loadA ty3 rfl rfl) rfl ?_
        refine op_v (v_fieldB 0 Try.underlying47 rfl rfl fz3 rfl) rfl ?_
        refine op_v (v_loadA ty3 rfl rfl) rfl ?_
        by_cases hh : x.head ≠ y.head
        · refine op_v (v_cmptA rfl rfl rfl) rfl ?_
          refine op_v (v_move rfl) rfl ?_
          refine op_skip rfl rfl (by simp [undef]) rfl ?_
          refine op_skip rfl rfl (by simp [undef]) rfl ?_
          refine op_skip rfl rfl (by simp [undef]) rfl ?_
          refine op_skip rfl rfl (by simp [undef]) rfl ?_
          refine op_skip rfl rfl (by simp [undef]) rfl ?_
          refine op_skip rfl rfl (by simp [undef]) rfl ?_
          refine op_skip rfl rfl (by simp [undef]) rfl ?_
          refine op_v (v_pickt rfl rfl) rfl ?_
          refine ops_nil ?_
          refine post_next ?_
          refine code_cond_t rfl ?_
          refine code_seq ?_
          refine code_region ?_
          refine op_v (v_assign rfl) rfl ?_
          refine ops_nil ?_
          refine post_next ?_
          refine code_ret ?_
          refine post_ret_then ?_
          refine post_ret_block ?_
          refine post_ret_then ?_
          refine post_ret_block ?_
          refine post_ret_then ?_
          refine post_ret (rs := [.tmp 4]) rfl (List.Perm.refl _) (.cons (.tmp rfl) .nil) (List.nil_sublist _) ?_
          exact ⟨bool_f fun e => hh (by have := hiff.1 e; have := (List.append_inj this hlr').2; simp at this; rw [this]), rfl⟩
        · refine op_v (v_cmpfA rfl rfl rfl) rfl ?_
          refine op_v (v_move rfl) rfl ?_
          first
            | (refine op_want rfl rfl ?_
               refine op_v (v_fieldB 1 Try.underlying47 rfl rfl fz45 rfl) rfl ?_)
            | (refine op_skip rfl rfl (by simp [undef]) rfl ?_)
          refine op_want rfl rfl ?_
          refine op_v (v_loadA ty45 rfl rfl) rfl ?_
          refine op_want rfl rfl ?_
          refine op_v (v_len Try.underlying45 rfl) rfl ?_
          first
            | (refine op_want rfl rfl ?_
               refine op_v (v_fieldB 1 Try.underlying47 rfl rfl fz45 rfl) rfl ?_)
            | (refine op_skip rfl rfl (by simp [undef]) rfl ?_)
          refine op_want rfl rfl ?_
          refine op_v (v_loadA ty45 rfl rfl) rfl ?_
          refine op_want rfl rfl ?_
          refine op_v (v_len Try.underlying45 rfl) rfl ?_
          by_cases hn : x.args.length ≠ y.args.length
          · first
              | (refine op_want rfl rfl ?_
                 refine op_v (v_cmptA rfl rfl rfl) rfl ?_)
              | (refine op_skip rfl rfl (by simp [undef]) rfl ?_)
            refine op_v (v_pickf rfl rfl) rfl ?_
            refine ops_nil ?_
            refine post_next ?_
            refine code_cond_t rfl ?_
            refine code_seq ?_
            refine code_region ?_
            refine op_v (v_assign rfl) rfl ?_
            refine ops_nil ?_
            refine post_next ?_
            refine code_ret ?_
            refine post_ret_then ?_
            refine post_ret_block ?_
            refine post_ret_then ?_
            refine post_ret_block ?_
            refine post_ret_then ?_
            refine post_ret (rs := [.tmp 4]) rfl (List.Perm.refl _) (.cons (.tmp rfl) .nil) (List.nil_sublist _) ?_
            exact ⟨bool_f fun e => hn (by have := hiff.1 e; have := (List.append_inj this hlr').2; simp at this; rw [this]), rfl⟩
          · first
              | (refine op_want rfl rfl ?_
                 refine op_v (v_cmpfA rfl rfl rfl) rfl ?_)
              | (refine op_skip rfl rfl (by simp [undef]) rfl ?_)
            refine op_v (v_pickf rfl rfl) rfl ?_
            refine ops_nil ?_
            refine post_next ?_
            refine code_cond_f rfl ?_
            refine code_skip ?_
            refine post_next ?_
            refine code_draw (.fl 0 (.fl 1 (.fl 2 (.fl 4 (.fl 5 (.fl 6 (.ef 3 (.ef 7 (.ef 8 (.ef 9 .done)))))))))) (fun _ => [.box b8 47 [.int .i64 x.head, .slice xa x.args.length xc], .box b9 47 [.int .i64 y.head, .slice ya y.args.length yc]]) mixed (by kernel_rfl) (by kernel_rfl) (fun _ => (List.Sublist.cons_cons _ (List.Sublist.cons_cons _ (List.nil_sublist _)))) ?_
            refine e_fl rfl rfl (fun hs_ => PF.mk rfl (v_move rfl) hs_) ?_
            refine e_fl rfl rfl (fun hs_ => PF.mk rfl (v_fieldB 1 Try.underlying47 rfl rfl fz45 rfl) hs_) ?_
            refine e_fl rfl rfl (fun hs_ => PF.mk rfl (v_loadA ty45 rfl rfl) hs_) ?_
            refine e_fl rfl rfl (fun hs_ => PF.mk rfl (v_move rfl) hs_) ?_
            refine e_fl rfl rfl (fun hs_ => PF.mk rfl (v_fieldB 1 Try.underlying47 rfl rfl fz45 rfl) hs_) ?_
            refine e_fl rfl rfl (fun hs_ => PF.mk rfl (v_loadA ty45 rfl rfl) hs_) ?_
            refine e_eff rfl (by intro cs b hc; cases hc) (by intro c hc; cases hc) ?_
            obtain ⟨_, _, _, _, hubx, ssx, huax, husubx⟩ := hrx.open
            obtain ⟨_, _, _, _, huby, ssy, huay, husuby⟩ := hry.open
            obtain ⟨hcx, hrowx⟩ := RowT.of huax husubx
            obtain ⟨hcy, hrowy⟩ := RowT.of huay husuby
            have hh' : x.head = y.head := by omega
            have hn' : x.args.length = y.args.length := by omega
            refine o_append Try.underlying45 bs47 rfl rfl rfl (fun v' => by repeat (first | exact Swap.here | apply Swap.there)) (Src.ofI hcx) (rowsT_length _ _) (rowsT_one _ _) (by omega) (by omega) (fun a51 c51 => ?_)
            refine ops_nil ?_
            refine e_next rfl side_allA ?_
            refine e_eff rfl (by intro cs b hc; cases hc) (by intro c hc; cases hc) ?_
            refine o_append Try.underlying45 bs47 rfl rfl rfl (fun v' => by repeat (first | exact Swap.here | apply Swap.there)) (Src.ofI hcy) (rowsT_length _ _) (rowsT_one _ _) (by omega) (by omega) (fun a55 c55 => ?_)
            refine ops_nil ?_
            refine e_next rfl side_allA ?_
            refine e_eff rfl (by intro cs b hc; cases hc) (by intro c hc; cases hc) ?_
            refine op_v (v_assign rfl) rfl ?_
            refine ops_nil ?_
            refine e_next rfl side_allA ?_
            refine e_eff rfl (by intro cs b hc; cases hc) (by intro c hc; cases hc) ?_
            refine op_v (v_assign rfl) rfl ?_
            refine ops_nil ?_
            refine e_next rfl (side_nil (by kernel_rfl)) ?_
            refine e_done ?_
            refine post_out ?_
            refine PostJ.view ((View.drop Del.here).trans (View.drop Del.here)) ?_
            rw [← hn']
            have hl1 : ls'.length + x.args.length = (ls' ++ x.args).length := by simp
            rw [hl1]
            refine post_again (sizeL (ls' ++ x.args)) [(5, .slice a51 (ls' ++ x.args).length c51), (6, .slice a55 (ls' ++ x.args).length c55)] (by omega) ⟨ls' ++ x.args, rs' ++ y.args, a51, a55, c51, c55, _, _, rfl, by simp; omega, rfl, hI0, rfl, hrl'.app hrowx, hrr'.app hrowy, by omega, hiff.trans (same_cons hlr' hh' hn')⟩ ⟨rfl, rfl, trivial⟩
    · have hls : ls = [] := by simpa using hc0
      subst hls
      have hrs : rs = [] := List.eq_nil_of_length_eq_zero (by simpa using hlr.symm)
      refine code_exit ?_
      refine post_exit_then ?_
      refine post_exit_then ?_
      refine post_exit ?_
      refine post_next ?_
      refine code_seq ?_
      refine code_region ?_
      refine op_v (v_assign rfl) rfl ?_
      refine ops_nil ?_
      refine post_next ?_
      refine code_ret ?_
      refine post_ret (rs := [.tmp 4]) rfl (List.Perm.refl _) (.cons (.tmp rfl) .nil) (List.nil_sublist _) ?_
      exact ⟨bool_t (hiff.2 hrs.symm), rfl⟩
end Go.Proofs.Ytdbadicpbmndbaa
/- Walk: how two terms stand, by the program. -/
set_option linter.unusedVariables false
set_option linter.unusedSimpArgs false
/- short -/
namespace Go.Proofs.Ytdbadicpbmndbaa
open Go Lg

/-! ### a scope of labels that nothing jumps to -/
/-! ### the model -/
end Go.Proofs.Ytdbadicpbmndbaa
/- Walks: a symbol among others, a signature's rightness. -/
set_option linter.unusedVariables false
set_option linter.unusedSimpArgs false
/- short -/
namespace Go.Proofs.Ytdbadicpbmndbaa
open Go Lg

def fewG (gs : List Sy) : Bool := decide (gs.length ≤ 300) && gs.all fun s => decide (s.name.size ≤ 100)
theorem FewG_does {I : Imm} {v : Value} {gs : List Sy} (hv : RepG I v gs) :
    Does Try.prog 14 [v] I [] (fun v _ δ' => v = .bool (fewG gs) ∧ δ' = []) := by
  obtain ⟨ad, c, rfl⟩ := hv.shape
  obtain ⟨_, hc, hb, hat, hok⟩ := hv.open
  refine Does.intro Try.func14 rfl Try.ntmps14 rfl fun w0 => ?_
  refine code_seq ?_
  refine code_region ?_
  refine op_v (v_assign rfl) rfl ?_
  refine ops_nil ?_
  refine post_next ?_
  refine code_seq ?_
  refine code_seq ?_
  refine code_region ?_
  refine op_v (v_assign rfl) rfl ?_
  refine ops_nil ?_
  refine post_next ?_
  refine code_block ?_
  refine code_loop (fun m σ' I' δ' => ∃ k : Nat, m = gs.length - k ∧ k ≤ gs.length ∧ σ' = [(0, .slice ad gs.length c), (3, .int .i64 k)] ∧ I' = I ∧ δ' = [] ∧ (gs.take k).all (fun s => decide (s.name.size ≤ 100)) = true) gs.length [(0, .slice ad gs.length c), (3, .int .i64 (0 : Nat))] ⟨0, rfl, Nat.zero_le _, rfl, rfl, rfl, rfl⟩ ⟨rfl, rfl, trivial⟩ ?_
  rintro m _ _ _ ⟨k, rfl, hk, rfl, rfl, rfl, hp⟩
  refine code_seq ?_
  refine code_seq ?_
  refine code_region ?_
  refine op_v (v_move rfl) rfl ?_
  refine op_v (v_move rfl) rfl ?_
  refine op_v (v_len Try.underlying22 rfl) rfl ?_
  by_cases h7 : k < gs.length
  · have hs1 := (hat k h7).isSome
    refine op_v (v_cmptA rfl rfl rfl) rfl ?_
    refine op_v (v_move rfl) rfl ?_
    refine op_want rfl rfl ?_
    refine op_v (v_move rfl) rfl ?_
    refine op_want rfl rfl ?_
    refine op_v (v_len Try.underlying22 rfl) rfl ?_
    by_cases h11 : gs.length ≤ 300
    · first
        | (refine op_want rfl rfl ?_
           refine op_v (v_cmptA rfl rfl rfl) rfl ?_)
        | (refine op_skip rfl rfl (by simp [undef]) rfl ?_)
      refine op_v (v_pickt rfl rfl) rfl ?_
      refine ops_nil ?_
      refine post_next ?_
      refine code_cond_t rfl ?_
      refine code_skip ?_
      refine post_next ?_
      refine code_seq ?_
      refine code_block ?_
      refine code_seq ?_
      refine code_region ?_
      refine op_v (v_move rfl) rfl ?_
      refine op_v (v_move rfl) rfl ?_
      refine op_v (v_indexA Try.underlying22 sz79 rfl rfl) rfl ?_
      refine op_v (v_fieldI 0 Try.underlying79 rfl rfl fz9 rfl (by assumption)) rfl ?_
      refine op_v (v_loadI0 ty9 (hat k h7) rfl rfl rfl) rfl ?_
      refine op_v (v_lens Try.underlying9 rfl) rfl ?_
      refine op_v (v_cmp rfl rfl rfl) rfl ?_
      refine ops_nil ?_
      refine post_next ?_
      refine code_cond rfl (fun hc1 => ?_) (fun hc1 => ?_)
      · have h21 : 100 < gs[k].name.size := by have h := hc1; simp at h; omega
        refine code_seq ?_
        refine code_region ?_
        refine op_v (v_assign rfl) rfl ?_
        refine ops_nil ?_
        refine post_next ?_
        refine code_ret ?_
        refine post_ret_block ?_
        refine post_ret_then ?_
        refine post_ret_then ?_
        refine post_ret_block ?_
        refine post_ret_then ?_
        refine post_ret (rs := [.tmp 2]) rfl (List.Perm.refl _) (.cons (.tmp rfl) .nil) (List.nil_sublist _) ?_
        exact ⟨bool_b (by symm; rw [fewG, Bool.and_eq_false_iff]; right; rw [List.all_eq_false]; exact ⟨gs[k], List.getElem_mem _, by simp; omega⟩), rfl⟩
      · have h21 : ¬ 100 < gs[k].name.size := by have h := hc1; simp at h; omega
        refine code_skip ?_
        refine post_out ?_
        refine post_next ?_
        refine code_region ?_
        refine op_v (v_move rfl) rfl ?_
        refine op_v (v_addb rfl rfl rfl (by omega)) rfl ?_
        refine op_v (v_assign rfl) rfl ?_
        refine ops_nil ?_
        refine post_again (gs.length - (k + 1)) [(0, .slice ad gs.length c), (3, .int .i64 (k + 1 : Nat))] (by omega) ⟨k + 1, rfl, h7, rfl, rfl, rfl, ?_⟩ ⟨rfl, rfl, trivial⟩
        rw [List.take_succ_eq_append_getElem h7, List.all_append, hp]; simp; omega
    · first
        | (refine op_want rfl rfl ?_
           refine op_v (v_cmpfA rfl rfl rfl) rfl ?_)
        | (refine op_skip rfl rfl (by simp [undef]) rfl ?_)
      refine op_v (v_pickt rfl rfl) rfl ?_
      refine ops_nil ?_
      refine post_next ?_
      refine code_cond_f rfl ?_
      refine code_exit ?_
      refine post_exit_then ?_
      refine post_exit_then ?_
      refine post_exit ?_
      refine post_next ?_
      refine code_seq ?_
      refine code_region ?_
      refine op_v (v_move rfl) rfl ?_
      refine op_v (v_len Try.underlying22 rfl) rfl ?_
      refine op_v (v_cmpfA rfl rfl rfl) rfl ?_
      refine op_v (v_assign rfl) rfl ?_
      refine ops_nil ?_
      refine post_next ?_
      refine code_ret ?_
      refine post_ret (rs := [.tmp 2]) rfl (List.Perm.refl _) (.cons (.tmp rfl) .nil) (List.nil_sublist _) ?_
      exact ⟨bool_b (by simp [fewG, h11]), rfl⟩
  · refine op_v (v_cmpfA rfl rfl rfl) rfl ?_
    refine op_v (v_move rfl) rfl ?_
    refine op_skip rfl rfl (by simp [undef]) rfl ?_
    refine op_skip rfl rfl (by simp [undef]) rfl ?_
    refine op_skip rfl rfl (by simp [undef]) rfl ?_
    refine op_v (v_pickf rfl rfl) rfl ?_
    refine ops_nil ?_
    refine post_next ?_
    refine code_cond_f rfl ?_
    refine code_exit ?_
    refine post_exit_then ?_
    refine post_exit_then ?_
    refine post_exit ?_
    refine post_next ?_
    refine code_seq ?_
    refine code_region ?_
    refine op_v (v_move rfl) rfl ?_
    refine op_v (v_len Try.underlying22 rfl) rfl ?_
    by_cases h24 : gs.length ≤ 300
    · refine op_v (v_cmptA rfl rfl rfl) rfl ?_
      refine op_v (v_assign rfl) rfl ?_
      refine ops_nil ?_
      refine post_next ?_
      refine code_ret ?_
      refine post_ret (rs := [.tmp 2]) rfl (List.Perm.refl _) (.cons (.tmp rfl) .nil) (List.nil_sublist _) ?_
      have hge : k = gs.length := by omega
      rw [hge, List.take_length] at hp
      exact ⟨bool_b (by simp only [fewG, hp]; simp [h24]), rfl⟩
    · refine op_v (v_cmpfA rfl rfl rfl) rfl ?_
      refine op_v (v_assign rfl) rfl ?_
      refine ops_nil ?_
      refine post_next ?_
      refine code_ret ?_
      refine post_ret (rs := [.tmp 2]) rfl (List.Perm.refl _) (.cons (.tmp rfl) .nil) (List.nil_sublist _) ?_
      exact ⟨bool_b (by simp [fewG, h24]), rfl⟩
end Go.Proofs.Ytdbadicpbmndbaa
/- Walks: a signature's rightness, by the program. -/
set_option linter.unusedVariables false
set_option linter.unusedSimpArgs false
/- short -/
namespace Go.Proofs.Ytdbadicpbmndbaa
open Go Lg

def truthS : Sy := ⟨⟨#[36, 116, 114, 117, 101]⟩, 0, 1, true⟩
def badS (pre : List Sy) (x : Sy) : Bool := nmEq x.name ⟨#[]⟩ || (decide (64 < x.name.size) || ((pre.any fun s => nmEq s.name x.name) || (decide (x.ar < 0) || (decide (8 < x.ar) || (decide (x.wt < 1) || decide (1000 < x.wt))))))
def goodL : List Sy → List Sy → Bool
  | _, [] => true
  | pre, x :: r => !badS pre x && goodL (pre ++ [x]) r
def rightG (gs : List Sy) : Bool := match gs with
  | [] => false
  | x :: r => decide ((x :: r).length ≤ 256) && (syEq x truthS && goodL [] (x :: r))
def chkG (gs : List Sy) : Int := if rightG gs = true then 0 else 1
theorem goodL_at : ∀ (pre gs : List Sy), goodL pre gs = true ↔ ∀ i (h : i < gs.length), badS (pre ++ gs.take i) gs[i] = false
  | pre, [] => by simp [goodL]
  | pre, x :: r => by
    simp only [goodL, Bool.and_eq_true, Bool.not_eq_true', goodL_at (pre ++ [x]) r]
    constructor
    · rintro ⟨h1, h2⟩ i hi
      cases i with
      | zero => simpa using h1
      | succ i => have := h2 i (by simpa using hi); simpa using this
    · intro h
      have h0 : badS pre x = false := by
        have := h 0 (by simp)
        simp only [List.take_zero, List.append_nil, List.getElem_cons_zero] at this
        exact this
      refine ⟨h0, fun i hi => ?_⟩
      have := h (i + 1) (by simpa using hi)
      simpa using this
theorem rightG_len {gs : List Sy} (h : rightG gs = true) : 1 ≤ gs.length ∧ gs.length ≤ 256 := by
  cases gs with
  | nil => simp [rightG] at h
  | cons x r => simp only [rightG, Bool.and_eq_true, decide_eq_true_eq] at h; exact ⟨by simp, h.1⟩
theorem rightG_at {gs : List Sy} (h : rightG gs = true) (i : Nat) (hi : i < gs.length) : badS (gs.take i) gs[i] = false := by
  cases gs with
  | nil => simp at hi
  | cons x r =>
    simp only [rightG, Bool.and_eq_true] at h
    have := (goodL_at [] (x :: r)).1 h.2.2 i hi
    simpa using this
theorem rightG_of {gs : List Sy} (h0 : 0 < gs.length) (h1 : gs.length ≤ 256) (h2 : syEq (gs[0]'h0) truthS = true) (h3 : ∀ i (h : i < gs.length), badS (gs.take i) gs[i] = false) : rightG gs = true := by
  cases gs with
  | nil => simp at h0
  | cons x r =>
    simp only [rightG, Bool.and_eq_true, decide_eq_true_eq]
    exact ⟨h1, by simpa using h2, (goodL_at [] (x :: r)).2 (fun i hi => by simpa using h3 i hi)⟩
theorem chkG_head {gs : List Sy} (h0 : 0 < gs.length) (h : ¬ syEq (gs[0]'h0) truthS = true) : chkG gs = 1 := by
  unfold chkG
  rw [if_neg]
  intro hr
  cases gs with
  | nil => simp at h0
  | cons x r => simp only [rightG, Bool.and_eq_true] at hr; exact h (by simpa using hr.2.1)
end Go.Proofs.Ytdbadicpbmndbaa
/- How a substitution lies in memory; what stands for a variable. Plain definitions; no condition. -/
set_option linter.unusedVariables false
set_option linter.unusedSimpArgs false
/- short -/
namespace Go.Proofs.Ytdbadicpbmndbaa
open Go Lg

theorem FDoes.ofFirst {P : Program} {f : FuncId} {firsts args : List Value} {I : Imm} {δ : List Ent} {R : Value → Imm → List Ent → Prop} (hp : Plainf P f = true) (h : Does P f (firsts ++ args) I δ R) :
    FDoes P (.func (.func f) firsts.toArray #[]) args I δ R := by
  intro w hs
  refine ⟨{ target := .fn (.func f) #[], args := (firsts ++ args).toArray }, by simp [Deferred.ofValue], .inl ⟨f, (firsts ++ args).toArray, ?_, h w hs⟩⟩
  simp only [invoke]
  rw [run_callFunc hp]
  simp

abbrev Bi := Int × T
/-- a substitution that is only read -/
inductive RepB (I : Imm) : Value → List Bi → Prop
  | mk (ad : Option Addr) (c : Nat) (ss : Nat → Option Addr × Nat) (bs : List Bi) (hc : bs.length ≤ c) (hb : bs.length ≤ 4398046511104)
      (hat : ∀ i (h : i < bs.length), At I ad (i * 3) [.int .i64 bs[i].1, .int .i64 bs[i].2.head, .slice (ss i).1 bs[i].2.args.length (ss i).2]) (hr : ∀ i (h : i < bs.length), InR bs[i].1)
      (hsub : ∀ i (h : i < bs.length), RepT I (.agg #[.int .i64 bs[i].2.head, .slice (ss i).1 bs[i].2.args.length (ss i).2]) bs[i].2) : RepB I (.slice ad bs.length c) bs
theorem RepB.mono {I J : Imm} {v : Value} {bs : List Bi} (h : RepB I v bs) (hl : I.le J) : RepB J v bs := by
  obtain ⟨ad, c, ss, bs, hc, hb, hat, hr, hsub⟩ := h
  exact ⟨ad, c, ss, bs, hc, hb, fun i h => (hat i h).mono hl, hr, fun i h => (hsub i h).mono hl⟩
theorem RepB.shape {I : Imm} {v : Value} {bs : List Bi} (h : RepB I v bs) : ∃ ad c, v = .slice ad bs.length c := by
  obtain ⟨ad, c, ss, bs, _, _, _, _, _⟩ := h; exact ⟨ad, c, rfl⟩
theorem RepB.open {I : Imm} {ad : Option Addr} {n c : Nat} {bs : List Bi} (h : RepB I (.slice ad n c) bs) : n = bs.length ∧ bs.length ≤ c ∧ bs.length ≤ 4398046511104 ∧ (∀ i (h : i < bs.length), InR bs[i].1) ∧ ∃ ss : Nat → Option Addr × Nat,
    (∀ i (h : i < bs.length), At I ad (i * 3) [.int .i64 bs[i].1, .int .i64 bs[i].2.head, .slice (ss i).1 bs[i].2.args.length (ss i).2]) ∧
    (∀ i (h : i < bs.length), RepT I (.agg #[.int .i64 bs[i].2.head, .slice (ss i).1 bs[i].2.args.length (ss i).2]) bs[i].2) := by
  generalize e : Value.slice ad n c = v at h
  obtain ⟨ad', c', ss, bs, hc, hb, hat, hr, hsub⟩ := h
  cases e
  exact ⟨rfl, hc, hb, hr, ss, hat, hsub⟩

/-- the first bind of a variable -/
def ofB : List Bi → Int → Option T
  | [], _ => none
  | (v, t) :: r, x => if v = x then some t else ofB r x
/-- a map holds binds -/
def MB (I : Imm) (xs : Mp) (bs : List Bi) : Prop := ∀ v, (ofB bs v = none → mget xs v = none) ∧ ∀ t, ofB bs v = some t → ∃ u, mget xs v = some u ∧ RepT I u t
theorem MB.mono {I J : Imm} {xs : Mp} {bs : List Bi} (h : MB I xs bs) (hl : I.le J) : MB J xs bs :=
  fun v => ⟨(h v).1, fun t ht => let ⟨u, h1, h2⟩ := (h v).2 t ht; ⟨u, h1, h2.mono hl⟩⟩
theorem MB.nil (I : Imm) : MB I [] [] := fun v => ⟨fun _ => rfl, fun t ht => by simp [ofB] at ht⟩
theorem MB.put {I : Imm} {xs : Mp} {bs : List Bi} {v : Int} {t : T} {u : Value} (h : MB I xs bs) (hu : RepT I u t) : MB I (mput xs v u) ((v, t) :: bs) := fun x => by
  rw [mget_mput]
  simp only [ofB]
  by_cases e : v = x
  · rw [if_pos e, if_pos e]
    exact ⟨fun h => (by cases h), fun t' ht => (by cases ht; exact ⟨u, rfl, hu⟩)⟩
  · rw [if_neg e, if_neg e]; exact h x
def ofT (bs : List Bi) (t : T) : T := (ofB bs (-1 - t.head)).getD t

/-! ### a range over binds from behind -/
def encBd (bs : List Bi) (ss : Nat → Option Addr × Nat) (_ : Imm) (i : Nat) (vs : List Value) : Prop :=
  ∃ hi : i < bs.length, vs = [.int .i64 i, .agg #[.int .i64 bs[i].1, .int .i64 bs[i].2.head, .slice (ss i).1 bs[i].2.args.length (ss i).2]]
theorem backB_iter {I : Imm} {bs : List Bi} {ad : Option Addr} {c b : Nat} {ss : Nat → Option Addr × Nat} (hb : bs.length ≤ 4398046511104)
    (hat : ∀ i (h : i < bs.length), At I ad (i * 3) [.int .i64 bs[i].1, .int .i64 bs[i].2.head, .slice (ss i).1 bs[i].2.args.length (ss i).2]) :
    Iter Try.prog 183 [.pointer (some ⟨b, 0, none⟩)] I [.box b 51 [.slice ad bs.length c]] (encBd bs ss) (List.range bs.length).reverse := by
  intro yv J δ hmono h0 hy
  refine Does.intro Try.func183 rfl Try.ntmps183 rfl fun w0 => ?_
  refine code_seq ?_
  refine code_region ?_
  refine op_v (v_loadA ty51 rfl rfl) rfl ?_
  refine op_v (v_len Try.underlying51 rfl) rfl ?_
  refine op_v (v_subb rfl rfl rfl (by omega)) rfl ?_
  refine op_v (v_assign rfl) rfl ?_
  refine ops_nil ?_
  refine post_next ?_
  refine code_block ?_
  refine code_loop (fun m σ' I' δ' => ∃ (k : Nat) (δJ : List Ent), m = bs.length - k ∧ k ≤ bs.length ∧ σ' = [(0, yv), (1, .pointer (some ⟨b, 0, none⟩)), (3, .int .i64 ((bs.length : Int) - 1 - k))] ∧ I.le I' ∧ δ' = .box b 51 [.slice ad bs.length c] :: δJ ∧ J ((List.range bs.length).reverse.take k) I' δJ) bs.length [(0, yv), (1, .pointer (some ⟨b, 0, none⟩)), (3, .int .i64 ((bs.length : Int) - 1))] ⟨0, δ, rfl, Nat.zero_le _, by simp, Imm.le_refl _, rfl, h0⟩ ⟨rfl, rfl, rfl, trivial⟩ ?_
  rintro m _ I0 _ ⟨k, δJ, rfl, hk, rfl, hI0, rfl, hJ⟩
  refine code_seq ?_
  refine code_seq ?_
  refine code_region ?_
  refine op_v (v_move rfl) rfl ?_
  refine op_v (v_cmp rfl rfl rfl) rfl ?_
  refine ops_nil ?_
  refine post_next ?_
  refine code_cond rfl (fun hc0 => ?_) (fun hc0 => ?_)
  · have hq : 0 ≤ (bs.length : Int) - 1 - k := by simpa using hc0
    have hlt : k < bs.length := by omega
    obtain ⟨j, hj⟩ : ∃ j : Nat, j = bs.length - 1 - k := ⟨_, rfl⟩
    have hji : (bs.length : Int) - 1 - k = (j : Nat) := by omega
    rw [hji]
    have hjl : j < bs.length := by omega
    have hs1 := (hat j hjl).isSome
    have hx := range_rev bs.length k hlt
    rw [← hj] at hx
    have hx2 := range_rev_take bs.length k hlt
    rw [← hj] at hx2
    refine code_skip ?_
    refine post_next ?_
    refine code_seq ?_
    refine code_block ?_
    refine code_seq ?_
    refine code_region ?_
    refine op_v (v_move rfl) rfl ?_
    refine op_v (v_move rfl) rfl ?_
    refine op_v (v_loadA ty51 rfl rfl) rfl ?_
    refine op_v (v_move rfl) rfl ?_
    refine op_v (v_indexA Try.underlying51 sz54 rfl rfl) rfl ?_
    refine op_v (v_loadI0 ty54 ((hat j hjl).mono hI0) rfl rfl rfl) rfl ?_
    refine op_fcall rfl rfl rfl ((hy _ j _ _ _ _ hx hI0 hJ ⟨hjl, rfl⟩)) (List.perm_append_comm (l₁ := [_])) ?_
    rintro v17 I17 δ17 hI17 ⟨rfl, hJ17⟩
    refine OpsJ.view (View.perm (List.perm_append_comm (l₂ := [_]))) ?_
    rw [← hx2] at hJ17
    refine op_v (v_not rfl) rfl ?_
    refine ops_nil ?_
    refine post_next ?_
    refine code_cond_f rfl ?_
    refine code_skip ?_
    refine post_out ?_
    refine post_next ?_
    refine code_region ?_
    refine op_v (v_move rfl) rfl ?_
    refine op_v (v_subb rfl rfl rfl (by omega)) rfl ?_
    refine op_v (v_assign rfl) rfl ?_
    refine ops_nil ?_
    refine post_again (bs.length - (k + 1)) [(0, yv), (1, .pointer (some ⟨b, 0, none⟩)), (3, .int .i64 ((j : Int) - 1))] (by omega) ⟨k + 1, δ17, rfl, hlt, ?_, Imm.le_trans hI0 hI17, rfl, hJ17⟩ ⟨rfl, rfl, rfl, trivial⟩
    rw [show (j : Int) - 1 = (bs.length : Int) - 1 - ((k + 1 : Nat) : Int) by omega]
  · have hq : ¬ 0 ≤ (bs.length : Int) - 1 - k := by simpa using hc0
    have hge : k = bs.length := by omega
    have hall : (List.range bs.length).reverse.take k = (List.range bs.length).reverse := List.take_of_length_le (by simp; omega)
    rw [hall] at hJ
    refine code_exit ?_
    refine post_exit_then ?_
    refine post_exit_then ?_
    refine post_exit ?_
    refine post_end (rs := []) rfl (List.Perm.refl _) .nil (List.Sublist.refl _) ⟨δJ, hJ, rfl⟩
theorem BackwardB_does {I : Imm} {s : Value} :
    Does Try.prog 176 [s] I [] (fun v I' δ' => ∃ b, v = .func (.func 183) #[] #[.pointer (some ⟨b, 0, none⟩)] ∧ δ' = [.box b 51 (cellsL s)]) := by
  refine Does.intro Try.func176 rfl Try.ntmps176 rfl fun w0 => ?_
  refine code_seq ?_
  refine code_region ?_
  refine o_box rfl rfl rfl (fun b1 => ?_)
  refine op_v (v_assign rfl) rfl ?_
  refine ops_nil ?_
  refine post_next ?_
  refine code_seq ?_
  refine code_region ?_
  refine op_v (v_makeFunc rfl rfl) rfl ?_
  refine op_v (v_assign rfl) rfl ?_
  refine ops_nil ?_
  refine post_next ?_
  refine code_ret ?_
  refine post_ret (rs := [.tmp 2]) rfl (List.Perm.refl _) (.cons (.tmp rfl) .nil) (List.Sublist.refl _) ?_
  exact ⟨b1, rfl, rfl⟩

theorem drop_mid {bs : List Bi} {pre post : List Nat} {x : Nat} (hx : (List.range bs.length).reverse = pre ++ x :: post) : ∃ h : x < bs.length, bs.drop (bs.length - pre.length) = bs.drop (x + 1) ∧ bs.drop (bs.length - (pre ++ [x]).length) = bs[x] :: bs.drop (x + 1) := by
  have hl : pre.length < bs.length := by have := congrArg List.length hx; simp at this; omega
  have h1 := congrArg (fun l => l[pre.length]?) hx
  simp only [List.getElem?_append_right (Nat.le_refl _), Nat.sub_self, List.getElem?_cons_zero] at h1
  rw [List.getElem?_reverse (by simpa using hl), List.getElem?_range (by simp; omega)] at h1
  simp at h1
  have hxl : x < bs.length := by omega
  refine ⟨hxl, by congr 1; omega, ?_⟩
  rw [← List.drop_eq_getElem_cons hxl]; congr 1; simp; omega
theorem open_does {I : Imm} {v : Value} {bs : List Bi} (hv : RepB I v bs) :
    Does Try.prog 155 [v] I [] (fun v I' δ' => ∃ b xs, v = .map (some b) ∧ δ' = [.map b xs] ∧ MB I' xs bs) := by
  obtain ⟨ad, c, rfl⟩ := hv.shape
  obtain ⟨_, hc, hb, hr, ss, hat, hsub⟩ := hv.open
  refine Does.intro Try.func155 rfl Try.ntmps155 rfl fun w0 => ?_
  refine code_seq ?_
  refine code_region ?_
  refine op_v (v_assign rfl) rfl ?_
  refine ops_nil ?_
  refine post_next ?_
  refine code_seq ?_
  refine code_region ?_
  refine o_makeMap rfl (fun b6 => ?_)
  refine o_alloc z173 rfl rfl (fun b3 => ?_)
  refine o_store ty173 rfl rfl rfl rfl rfl (by repeat (first | exact Swap.here | apply Swap.there)) rfl ?_
  refine ops_nil ?_
  refine post_next ?_
  refine code_seq ?_
  refine code_seq ?_
  refine code_region ?_
  refine op_v (v_move rfl) rfl ?_
  refine op_call pl176 rfl rfl ((BackwardB_does)) Parts.none ?_
  rintro v8 I8 _ hI8 ⟨b8, rfl, rfl⟩
  refine ops_nil ?_
  refine post_next ?_
  refine code_block ?_
  refine code_range (δb := [_, _]) (B := fun l I' δ' => ∃ xs, δ' = [.box b3 173 [.map (some b6)], .map b6 xs] ∧ MB I' xs (bs.drop (bs.length - l.length))) rfl rfl pl183 rfl (backB_iter hb (fun i h => (hat i h).mono hI8)) (List.Perm.refl _) ⟨[], rfl, by simp; exact MB.nil _⟩ (by rintro _ _ _ ⟨_, rfl⟩; rfl) (by rintro l I1 I2 _ hle ⟨xs, rfl, h⟩; exact ⟨xs, rfl, h.mono hle⟩) ?_ ?_
  · rintro l r w1 pre x post I2 _ _ hrs hrp hx hI2 ⟨xs, rfl, hM⟩ ⟨hxl, rfl⟩
    obtain ⟨_, hd1, hd2⟩ := drop_mid hx
    rw [hd1] at hM
    refine code_region ?_
    refine o_alloc z54 rfl rfl (fun b5 => ?_)
    refine o_store ty54 rfl rfl rfl rfl rfl (by repeat (first | exact Swap.here | apply Swap.there)) rfl ?_
    refine ops_nil ?_
    refine post_begin hrs (Swap.there Swap.here) ?_
    refine code_block ?_
    refine code_region ?_
    refine op_v (v_loadA ty173 rfl rfl) rfl ?_
    refine op_v (v_fieldB 0 Try.underlying54 rfl rfl fz3 rfl) rfl ?_
    refine op_v (v_loadA ty3 rfl rfl) rfl ?_
    refine op_v (v_fieldB 1 Try.underlying54 rfl rfl fz47 rfl) rfl ?_
    refine op_v (v_loadA ty47 rfl rfl) rfl ?_
    refine o_mapUpdate Try.underlying173 Try.underlying3 rfl rfl rfl rfl (by repeat (first | exact Swap.here | apply Swap.there)) ?_
    refine ops_nil ?_
    refine post_out ?_
    refine PostJ.view (View.drop Del.here) ?_
    refine post_round Swap.here hrs hrp ⟨rfl, _, rfl, _, rfl, ?_⟩
    rw [hd2]
    exact hM.put ((hsub x hxl).mono Imm.leA)
  · rintro blk I3 _ hI3 ⟨xs, rfl, hM⟩
    refine post_out ?_
    refine post_next ?_
    refine code_seq ?_
    refine code_region ?_
    refine op_v (v_loadA ty173 rfl rfl) rfl ?_
    refine op_v (v_assign rfl) rfl ?_
    refine ops_nil ?_
    refine post_next ?_
    refine code_ret ?_
    refine post_ret (rs := [.tmp 2]) rfl (List.Perm.refl _) (.cons (.tmp rfl) .nil) (List.Sublist.cons _ (List.Sublist.cons _ (List.Sublist.cons_cons _ (List.nil_sublist _)))) ?_
    exact ⟨b6, xs, rfl, rfl, by simpa using hM⟩
theorem of_does {I : Imm} {b : Nat} {xs : Mp} {bs : List Bi} {v : Value} {t : T} (hv : RepT I v t) (hM : MB I xs bs) :
    Does Try.prog 156 [.map (some b), v] I [.map b xs] (fun v I' δ' => RepT I' v (ofT bs t) ∧ δ' = [.map b xs]) := by
  obtain ⟨a0, c0, rfl, hr0⟩ := hv.shape
  unfold InR at hr0
  refine Does.intro Try.func156 rfl Try.ntmps156 rfl fun w0 => ?_
  refine code_seq ?_
  refine code_region ?_
  refine o_box rfl rfl rfl (fun b3 => ?_)
  refine o_alloc z47 rfl rfl (fun b4 => ?_)
  refine ops_nil ?_
  refine post_next ?_
  refine code_seq ?_
  refine code_seq ?_
  refine code_region ?_
  refine op_v (v_move rfl) rfl ?_
  refine op_v (v_fieldB 0 Try.underlying47 rfl rfl fz3 rfl) rfl ?_
  refine op_v (v_loadA ty3 rfl rfl) rfl ?_
  refine op_v (v_subb rfl rfl rfl (by omega)) rfl ?_
  by_cases hof : (ofB bs (-1 - t.head)).isSome = true
  · obtain ⟨u, hu⟩ := Option.isSome_iff_exists.1 hof
    obtain ⟨uv, hg, huv⟩ := (hM (-1 - t.head)).2 u hu
    obtain ⟨ua, uc, rfl, _⟩ := huv.shape
    refine op_v (v_mlook2 (v := .agg #[.int .i64 u.head, .slice ua u.args.length uc]) (g := true) Try.underlying173 Try.underlying3 z47 rfl rfl (by repeat (first | exact Has.here | apply Has.there)) (by rw [hg]; rfl) (by rw [hg]; rfl)) rfl ?_
    refine op_v (v_move rfl) rfl ?_
    refine op_v (v_extract rfl rfl) rfl ?_
    refine op_v (v_extract rfl rfl) rfl ?_
    refine o_alloc z47 rfl rfl (fun b5 => ?_)
    refine o_store ty47 rfl rfl rfl rfl rfl (by repeat (first | exact Swap.here | apply Swap.there)) rfl ?_
    refine op_v (v_assign rfl) rfl ?_
    refine ops_nil ?_
    refine post_next ?_
    refine code_seq ?_
    refine code_region ?_
    refine op_v (v_move rfl) rfl ?_
    refine ops_nil ?_
    refine post_next ?_
    refine code_cond_t rfl ?_
    refine code_seq ?_
    refine code_region ?_
    refine op_v (v_loadA ty47 rfl rfl) rfl ?_
    refine o_store ty47 rfl rfl rfl rfl rfl (by repeat (first | exact Swap.here | apply Swap.there)) rfl ?_
    refine ops_nil ?_
    refine post_next ?_
    refine code_ret ?_
    refine post_ret_then ?_
    refine post_ret (rs := [.cell 4 47]) rfl (List.Perm.refl _) (.cons (.cell rfl ty47 (by repeat (first | exact Has.here | apply Has.there)) rfl) .nil) (List.Sublist.cons _ (List.Sublist.cons _ (List.Sublist.cons _ (List.Sublist.refl _)))) ?_
    exact ⟨by rw [ofT, hu]; exact huv, rfl⟩
  · have hu : ofB bs (-1 - t.head) = none := by simpa using hof
    have hg := (hM (-1 - t.head)).1 hu
    refine op_v (v_mlook2 (v := .agg #[.int .i64 0, .slice none 0 0]) (g := false) Try.underlying173 Try.underlying3 z47 rfl rfl (by repeat (first | exact Has.here | apply Has.there)) (by rw [hg]; rfl) (by rw [hg]; rfl)) rfl ?_
    refine op_v (v_move rfl) rfl ?_
    refine op_v (v_extract rfl rfl) rfl ?_
    refine op_v (v_extract rfl rfl) rfl ?_
    refine o_alloc z47 rfl rfl (fun b5 => ?_)
    refine o_store ty47 rfl rfl rfl rfl rfl (by repeat (first | exact Swap.here | apply Swap.there)) rfl ?_
    refine op_v (v_assign rfl) rfl ?_
    refine ops_nil ?_
    refine post_next ?_
    refine code_seq ?_
    refine code_region ?_
    refine op_v (v_move rfl) rfl ?_
    refine ops_nil ?_
    refine post_next ?_
    refine code_cond_f rfl ?_
    refine code_skip ?_
    refine post_next ?_
    refine code_seq ?_
    refine code_region ?_
    refine op_v (v_loadA ty47 rfl rfl) rfl ?_
    refine o_store ty47 rfl rfl rfl rfl rfl (by repeat (first | exact Swap.here | apply Swap.there)) rfl ?_
    refine ops_nil ?_
    refine post_next ?_
    refine code_ret ?_
    refine post_ret (rs := [.cell 4 47]) rfl (List.Perm.refl _) (.cons (.cell rfl ty47 (by repeat (first | exact Has.here | apply Has.there)) rfl) .nil) (List.Sublist.cons _ (List.Sublist.cons _ (List.Sublist.cons _ (List.Sublist.refl _)))) ?_
    exact ⟨by rw [ofT, hu]; exact hv, rfl⟩
end Go.Proofs.Ytdbadicpbmndbaa
/- Rows of binds. Plain definitions; no condition. -/
set_option linter.unusedVariables false
set_option linter.unusedSimpArgs false
namespace Go.Proofs.Ytdbadicpbmndbaa
open Go Lg

end Go.Proofs.Ytdbadicpbmndbaa
/- Plain facts on parts of terms. No condition. -/
set_option linter.unusedVariables false
set_option linter.unusedSimpArgs false
namespace Go.Proofs.Ytdbadicpbmndbaa
open Go Lg

theorem depL_app (a b : List T) : depL (a ++ b) = max (depL a) (depL b) := by
  induction a with
  | nil => simp [depL]
  | cons x r ih => simp only [List.cons_append, depL, ih, Nat.max_assoc]
theorem depL_take (l : List T) (k : Nat) (h : k < l.length) : depL (l.take (k + 1)) = max (depL (l.take k)) (depT l[k]) := by
  rw [List.take_succ_eq_append_getElem h, depL_app]; simp [depL]
theorem depL_mem : ∀ (l : List T) (k : Nat) (h : k < l.length), depT l[k] ≤ depL l
  | t :: r, 0, _ => by simp only [depL, List.getElem_cons_zero]; omega
  | t :: r, k + 1, h => by have := depL_mem r k (by simpa using h); simp [depL]; omega
mutual
theorem any_T : ∀ (d e : Nat) (t : T), (partsT d t).any badN = (partsT e t).any badN
  | d, e, .mk h ts => by
    simp only [partsT, List.any_cons]
    rw [any_L (d + 1) (e + 1) ts]
    rfl
theorem any_L : ∀ (d e : Nat) (ts : List T), (partsL d ts).any badN = (partsL e ts).any badN
  | _, _, [] => rfl
  | d, e, t :: r => by simp only [partsL, List.any_append]; rw [any_T d e t, any_L d e r]
end
theorem any_mem : ∀ (d : Nat) (l : List T) (k : Nat) (h : k < l.length), (partsL d l).any badN = false → (partsT d l[k]).any badN = false
  | d, t :: r, 0, _, h => by simp only [partsL, List.any_append, Bool.or_eq_false_iff] at h; exact h.1
  | d, t :: r, k + 1, hk, h => by
    simp only [partsL, List.any_append, Bool.or_eq_false_iff] at h
    exact any_mem d r k (by simpa using hk) h.2
theorem chk_part {h : Int} {ts : List T} (hc : chkT (.mk h ts) = 0) (k : Nat) (hk : k < ts.length) : chkT ts[k] = 0 := by
  have h1 := sizeL_mem ts k hk
  have h2 := depL_mem ts k hk
  have hsz : (T.mk h ts).size = 1 + sizeL ts := by simp [T.size]
  have hdp : depT (T.mk h ts) = 1 + depL ts := by simp [depT]
  unfold chkT at hc
  rw [hsz, hdp] at hc
  by_cases q1 : 400 < 1 + sizeL ts
  · rw [if_pos q1] at hc; omega
  · rw [if_neg q1] at hc
    by_cases q2 : 40 < 1 + depL ts
    · rw [if_pos q2] at hc; omega
    · rw [if_neg q2] at hc
      by_cases q3 : (partsT 1 (.mk h ts)).any badN = true
      · rw [if_pos q3] at hc; omega
      · have q4 : (partsL 2 ts).any badN = false := by
          simp only [partsT, List.any_cons, Bool.or_eq_true, not_or] at q3
          simpa using q3.2
        have q5 := any_mem 2 ts k hk q4
        rw [any_T 2 1] at q5
        unfold chkT
        rw [if_neg (by omega), if_neg (by omega), q5]
        rfl

end Go.Proofs.Ytdbadicpbmndbaa
/- Walks: terms put in place of variables. -/
set_option linter.unusedVariables false
set_option linter.unusedSimpArgs false
/- short -/
namespace Go.Proofs.Ytdbadicpbmndbaa
open Go Lg

mutual
/-- a term with something in place of each variable -/
def rbT (f : T → T) : T → T
  | .mk h us => if h < 0 then f (.mk h us) else .mk h (rbL f us)
def rbL (f : T → T) : List T → List T
  | [] => []
  | t :: r => rbT f t :: rbL f r
end
theorem rbL_map (f : T → T) : ∀ us : List T, rbL f us = us.map (rbT f)
  | [] => rfl
  | t :: r => by simp [rbL, rbL_map f r]
theorem rbL_len (f : T → T) (us : List T) : (rbL f us).length = us.length := by rw [rbL_map]; simp
theorem rbL_take (f : T → T) (us : List T) (k : Nat) (h : k < us.length) : rbL f (us.take (k + 1)) = rbL f (us.take k) ++ [rbT f us[k]] := by
  rw [rbL_map, rbL_map, List.take_succ_eq_append_getElem h, List.map_append]; rfl

theorem rebuild_does {fv : Value} {δf : List Ent} {f : T → T} {I0 : Imm} (hf : ∀ J v t, I0.le J → RepT J v t → FDoes Try.prog fv [v] J δf (fun v' J' δ' => RepT J' v' (f t) ∧ δ' = δf)) :
    ∀ (n : Nat) (t : T), t.size ≤ n → ∀ (I : Imm) (v : Value), I0.le I → RepT I v t →
    Does Try.prog 144 [v, fv] I δf (fun v I' δ' => RepT I' v (rbT f t) ∧ δ' = δf) := by
  intro n
  induction n with
  | zero => intro t ht; have := t.size_pos; omega
  | succ n ih =>
    intro t ht I v hI hv
    obtain ⟨h, ts⟩ := t
    have hv0 := hv
    obtain ⟨ad, c, ss, rfl, hr, hc, hb, hat, hsub⟩ := hv.elim
    have hsz : (T.mk h ts).size = 1 + sizeL ts := by simp [T.size]
    refine Does.intro Try.func144 rfl Try.ntmps144 rfl fun w0 => ?_
    refine code_seq ?_
    refine code_region ?_
    refine o_box rfl rfl rfl (fun b2 => ?_)
    refine o_alloc z47 rfl rfl (fun b4 => ?_)
    refine ops_nil ?_
    refine post_next ?_
    refine code_seq ?_
    refine code_seq ?_
    refine code_region ?_
    refine op_v (v_fieldB 0 Try.underlying47 rfl rfl fz3 rfl) rfl ?_
    refine op_v (v_loadA ty3 rfl rfl) rfl ?_
    by_cases hneg : h < 0
    · refine op_v (v_cmptA rfl rfl rfl) rfl ?_
      refine ops_nil ?_
      refine post_next ?_
      refine code_cond_t rfl ?_
      refine code_seq ?_
      refine code_region ?_
      refine op_v (v_move rfl) rfl ?_
      refine op_v (v_loadA ty47 rfl rfl) rfl ?_
      refine op_fcall rfl rfl rfl ((hf _ _ _ hI hv0)) (List.perm_append_comm (l₁ := [_, _])) ?_
      rintro v13 I13 _ hI13 ⟨hv13, rfl⟩
      obtain ⟨a13, c13, rfl, _⟩ := hv13.shape
      refine OpsJ.view (View.perm (List.perm_append_comm (l₂ := [_, _]))) ?_
      refine o_store ty47 rfl rfl rfl rfl rfl (by repeat (first | exact Swap.here | apply Swap.there)) rfl ?_
      refine ops_nil ?_
      refine post_next ?_
      refine code_ret ?_
      refine post_ret_then ?_
      refine post_ret (rs := [.cell 4 47]) rfl (List.Perm.refl _) (.cons (.cell rfl ty47 (by repeat (first | exact Has.here | apply Has.there)) rfl) .nil) (List.Sublist.cons _ (List.Sublist.cons _ (List.Sublist.refl _))) ?_
      exact ⟨by simp only [rbT]; rw [if_pos hneg]; exact hv13, rfl⟩
    · refine op_v (v_cmpfA rfl rfl rfl) rfl ?_
      refine ops_nil ?_
      refine post_next ?_
      refine code_cond_f rfl ?_
      refine code_skip ?_
      refine post_next ?_
      refine code_seq ?_
      refine code_region ?_
      refine op_v (v_fieldB 0 Try.underlying47 rfl rfl fz3 rfl) rfl ?_
      refine op_v (v_loadA ty3 rfl rfl) rfl ?_
      refine op_v (v_build bl47 rfl rfl) rfl ?_
      refine o_alloc z47 rfl rfl (fun b5 => ?_)
      refine o_store ty47 rfl rfl rfl rfl rfl (by repeat (first | exact Swap.here | apply Swap.there)) rfl ?_
      refine ops_nil ?_
      refine post_next ?_
      refine code_seq ?_
      refine code_seq ?_
      refine code_region ?_
      refine op_v (v_fieldB 1 Try.underlying47 rfl rfl fz45 rfl) rfl ?_
      refine op_v (v_loadA ty45 rfl rfl) rfl ?_
      refine op_v (v_len Try.underlying45 rfl) rfl ?_
      refine op_v (v_move rfl) rfl ?_
      refine ops_nil ?_
      refine post_next ?_
      refine code_block ?_
      refine CodeJ.view (View.nilRow 47 2) ?_
      refine code_loop (fun m σ' I' δ' => ∃ (k : Nat) (ar : Option Addr) (cr : Nat) (xs : List Value), m = ts.length - k ∧ k ≤ ts.length ∧ σ' = [(1, fv), (4, .pointer (some ⟨b4, 0, none⟩)), (5, .pointer (some ⟨b5, 0, none⟩)), (18, .slice ad ts.length c), (19, .int .i64 ts.length), (20, .int .i64 k)] ∧ I.le I' ∧ δ' = .row (.slice ar k cr) 47 2 k xs :: .box b5 47 [.int .i64 h, .slice ar k cr] :: .box b4 47 [.int .i64 0, .slice none 0 0] :: .box b2 47 [.int .i64 h, .slice ad ts.length c] :: δf ∧ RowT I' xs (rbL f (ts.take k))) ts.length [(1, fv), (4, .pointer (some ⟨b4, 0, none⟩)), (5, .pointer (some ⟨b5, 0, none⟩)), (18, .slice ad ts.length c), (19, .int .i64 ts.length), (20, .int .i64 (0 : Nat))] ⟨0, none, 0, [], rfl, Nat.zero_le _, rfl, Imm.le_refl _, rfl, RowT.nil _⟩ ⟨rfl, rfl, rfl, rfl, rfl, rfl, trivial⟩ ?_
      rintro m _ I1 _ ⟨k, ar, cr, xs, rfl, hk, rfl, hI1, rfl, hp⟩
      refine code_seq ?_
      refine code_region ?_
      refine op_v (v_cmp rfl rfl rfl) rfl ?_
      refine ops_nil ?_
      refine post_next ?_
      refine code_seq ?_
      refine code_cond rfl (fun hc1 => ?_) (fun hc1 => ?_)
      · have hlt : k < ts.length := by simpa using hc1
        have hs1 := (hat k hlt).isSome
        have hm := sizeL_mem ts k hlt
        refine code_skip ?_
        refine post_next ?_
        refine code_seq ?_
        refine code_block ?_
        refine code_seq ?_
        refine code_region ?_
        refine op_v (v_indexA Try.underlying45 sz47 rfl rfl) rfl ?_
        refine op_v (v_loadI0 ty47 ((hat k hlt).mono hI1) rfl rfl rfl) rfl ?_
        refine o_alloc z47 rfl rfl (fun b7 => ?_)
        refine o_store ty47 rfl rfl rfl rfl rfl (by repeat (first | exact Swap.here | apply Swap.there)) rfl ?_
        refine ops_nil ?_
        refine post_next ?_
        refine code_draw (.fl 0 (.fl 1 (.fl 2 (.fl 3 (.ef 4 (.ef 5 (.ef 6 (.fl 7 (.ef 8 .done))))))))) (fun _ => .box b7 47 [.int .i64 ts[k].head, .slice (ss k).1 ts[k].args.length (ss k).2] :: .box b5 47 [.int .i64 h, .slice ar k cr] :: .box b4 47 [.int .i64 0, .slice none 0 0] :: .box b2 47 [.int .i64 h, .slice ad ts.length c] :: δf) mixed (by kernel_rfl) (by kernel_rfl) (fun _ => (List.Sublist.cons_cons _ (List.Sublist.cons _ (List.Sublist.refl _)))) ?_
        refine e_float rfl rfl (fun hs_ => PF.mk rfl (v_fieldB 1 Try.underlying47 rfl rfl fz45 rfl) hs_) Imm.leA (by intro x hx; simp only [List.mem_cons] at hx ⊢; rcases hx with h | h | h | h | h <;> simp [h, cellsL]) ?_
        refine e_float rfl rfl (fun hs_ => PF.mk rfl (v_loadA ty45 rfl rfl) hs_) Imm.leA (by intro x hx; simp only [List.mem_cons] at hx ⊢; rcases hx with h | h | h | h | h <;> simp [h, cellsL]) ?_
        refine e_float rfl rfl (fun hs_ => PF.mk rfl (v_loadA ty47 rfl rfl) hs_) Imm.leA (by intro x hx; simp only [List.mem_cons] at hx ⊢; rcases hx with h | h | h | h | h <;> simp [h, cellsL]) ?_
        refine e_float rfl rfl (fun hs_ => PF.mk rfl (v_move rfl) hs_) Imm.leA (by intro x hx; simp only [List.mem_cons] at hx ⊢; rcases hx with h | h | h | h | h <;> simp [h, cellsL]) ?_
        refine e_eff rfl (by intro cs b hc; cases hc) (by intro c hc; cases hc) ?_
        refine op_call pl144 rfl rfl ((ih ts[k] (by omega) _ _ (Imm.le_trans hI hI1) ((hsub k hlt).mono hI1))) (List.perm_append_comm (l₁ := [_, _, _, _, _])) ?_
        rintro v28 I28 _ hI28 ⟨hv28, rfl⟩
        obtain ⟨p28, q28, rfl, _⟩ := hv28.shape
        refine OpsJ.view (View.perm (List.perm_append_comm (l₂ := [_, _, _, _, _]))) ?_
        refine ops_nil ?_
        refine e_next rfl (side_all Imm.leA (fun _ => (by intro x hx; simp only [List.mem_cons] at hx ⊢; rcases hx with h | h | h | h | h <;> simp [h, cellsL]))) ?_
        refine e_eff rfl (by intro cs b hc; cases hc) (by intro c hc; cases hc) ?_
        refine o_buildSlice (xs := [(Go.Operand.tmp 28)]) Try.underlying45 bs47 rfl rfl rfl rfl rfl (fun b29 => ?_)
        refine ops_nil ?_
        refine e_next rfl (side_all Imm.leA (fun _ => (by intro x hx; simp only [List.mem_cons] at hx ⊢; rcases hx with h | h | h | h | h <;> simp [h, cellsL]))) ?_
        refine e_eff rfl (by intro cs b hc; cases hc) (by intro c hc; cases hc) ?_
        refine o_append Try.underlying45 bs47 rfl rfl rfl (fun v' => by repeat (first | exact Swap.here | apply Swap.there)) (Src.ofRow (by repeat (first | exact Has.here | apply Has.there)) rfl) (by first | rfl | omega | simp) (by simp [cat, cellsL, Value.oneCell']) (by omega) (by omega) (fun a30 c30 => ?_)
        refine ops_nil ?_
        refine e_next rfl (side_all Imm.leA (fun _ => (by intro x hx; simp only [List.mem_cons] at hx ⊢; rcases hx with h | h | h | h | h <;> simp [h, cellsL]))) ?_
        refine e_float rfl rfl (fun hs_ => PF.mk rfl (v_fieldB 1 Try.underlying47 rfl rfl fz45 rfl) hs_) Imm.leA (by intro x hx; simp only [List.mem_cons] at hx ⊢; rcases hx with h | h | h | h | h <;> simp [h, cellsL]) ?_
        refine e_eff rfl (by intro cs b hc; cases hc) (by intro c hc; cases hc) ?_
        refine o_store ty45 rfl rfl rfl rfl rfl (by repeat (first | exact Swap.here | apply Swap.there)) rfl ?_
        refine ops_nil ?_
        refine e_next_ (side_nil (by kernel_rfl)) ?_
        refine e_done ?_
        refine post_out ?_
        refine post_next ?_
        refine code_region ?_
        refine op_v (v_addb rfl rfl rfl (by omega)) rfl ?_
        refine op_v (v_move rfl) rfl ?_
        refine ops_nil ?_
        refine PostJ.view ((View.drop Del.here).trans (View.drop Del.here)) ?_
        refine post_again (ts.length - (k + 1)) [(1, fv), (4, .pointer (some ⟨b4, 0, none⟩)), (5, .pointer (some ⟨b5, 0, none⟩)), (18, .slice ad ts.length c), (19, .int .i64 ts.length), (20, .int .i64 ((k + 1 : Nat) : Int))] (by omega) ⟨k + 1, a30, c30, xs ++ [.int .i64 (rbT f ts[k]).head, .slice p28 (rbT f ts[k]).args.length q28], rfl, hlt, rfl, Imm.le_trans hI1 hI28, rfl, ?_⟩ ⟨rfl, rfl, rfl, rfl, rfl, rfl, trivial⟩
        rw [rbL_take f ts k hlt]
        exact (hp.mono hI28).app (RowT.one hv28)
      · have hge : k = ts.length := by simp at hc1; omega
        subst hge
        rw [List.take_length] at hp
        refine code_exit ?_
        refine post_exit_then ?_
        refine post_exit_then ?_
        refine post_exit ?_
        refine post_next ?_
        refine code_seq ?_
        refine code_region ?_
        refine OpsJ.freezeRow Del.here ?_
        rintro I33 ar2 cr2 hI33 hvr hcr hlr hcells
        cases hvr
        refine op_v (v_loadA ty47 rfl rfl) rfl ?_
        refine o_store ty47 rfl rfl rfl rfl rfl (by repeat (first | exact Swap.here | apply Swap.there)) rfl ?_
        refine ops_nil ?_
        refine post_next ?_
        refine code_ret ?_
        refine post_ret (rs := [.cell 4 47]) rfl (List.Perm.refl _) (.cons (.cell rfl ty47 (by repeat (first | exact Has.here | apply Has.there)) rfl) .nil) (List.Sublist.cons _ (List.Sublist.cons _ (List.Sublist.cons _ (List.Sublist.refl _)))) ?_
        exact ⟨by simp only [rbT]; rw [if_neg hneg]; have hl := rbL_len f ts; have := RowT.rep (h := h) hcells (hp.mono hI33) hr (by rw [hl]; exact hcr) (by rw [hl]; exact hb); rw [hl] at this; exact this, rfl⟩

/-! ### sizes -/
mutual
theorem rb_sizeT (f : T → T) (m : Nat) (hm : 1 ≤ m) (hf : ∀ t, t.head < 0 → (f t).size ≤ m * t.size) : ∀ t : T, (rbT f t).size ≤ m * t.size
  | .mk h us => by
    simp only [rbT]
    split
    · exact hf _ (by assumption)
    · have := rb_sizeL f m hm hf us
      simp only [T.size, Nat.mul_add]; omega
theorem rb_sizeL (f : T → T) (m : Nat) (hm : 1 ≤ m) (hf : ∀ t, t.head < 0 → (f t).size ≤ m * t.size) : ∀ us : List T, sizeL (rbL f us) ≤ m * sizeL us
  | [] => by simp [rbL, sizeL]
  | t :: r => by
    have h1 := rb_sizeT f m hm hf t
    have h2 := rb_sizeL f m hm hf r
    simp only [rbL, sizeL, Nat.mul_add]; omega
end
theorem ofB_mem : ∀ {bs : List Bi} {v : Int} {t : T}, ofB bs v = some t → ∃ b ∈ bs, b.1 = v ∧ b.2 = t
  | [], v, t, h => by simp [ofB] at h
  | (w, u) :: r, v, t, h => by
    simp only [ofB] at h
    split at h
    · cases h; exact ⟨(w, u), List.mem_cons_self .., by assumption, rfl⟩
    · obtain ⟨b, hb, h1⟩ := ofB_mem h; exact ⟨b, List.mem_cons_of_mem _ hb, h1⟩
theorem ofT_size {bs : List Bi} {m : Nat} (hm : 1 ≤ m) (hb : ∀ b ∈ bs, b.2.size ≤ m) (t : T) : (ofT bs t).size ≤ m * t.size := by
  have hp := t.size_pos
  unfold ofT
  cases h : ofB bs (-1 - t.head) with
  | none =>
    show t.size ≤ _
    calc t.size = 1 * t.size := (Nat.one_mul _).symm
      _ ≤ m * t.size := Nat.mul_le_mul_right _ hm
  | some u =>
    obtain ⟨b, hbm, _, rfl⟩ := ofB_mem h
    have := hb b hbm
    show b.2.size ≤ _
    calc b.2.size ≤ m * 1 := by omega
      _ ≤ m * t.size := Nat.mul_le_mul_left _ hp
def sbT (bs : List Bi) (t : T) : T := rbT (ofT bs) t
theorem sbT_size {bs : List Bi} {m : Nat} (hm : 1 ≤ m) (hb : ∀ b ∈ bs, b.2.size ≤ m) (t : T) : (sbT bs t).size ≤ m * t.size := rb_sizeT _ m hm (fun t _ => ofT_size hm hb t) t

/-! ### rightness -/
def badBi (last : Int) (b : Bi) : Bool := decide (b.1 ≤ last) || (decide (255 < b.1) || (decide (chkT b.2 ≠ 0) || decide (b.2.head = -1 - b.1)))
def chkB (bs : List Bi) : Prop := ∀ i (h : i < bs.length), badBi (if i = 0 then -1 else (bs.getD (i - 1) (0, zeroT)).1) bs[i] = false
theorem SCheck_does {I : Imm} {v : Value} {bs : List Bi} (hv : RepB I v bs) (hbig : ∀ b ∈ bs, b.2.size ≤ 1000000000) :
    Does Try.prog 154 [v] I [] (fun v I' δ' => (∃ e : Int, v = .int .i64 e ∧ (e = 0 ∧ chkB bs ∨ e = 1 ∧ ¬ chkB bs)) ∧ δ' = []) := by
  obtain ⟨ad, c, rfl⟩ := hv.shape
  obtain ⟨_, hc, hb, hr, ss, hat, hsub⟩ := hv.open
  refine Does.intro Try.func154 rfl Try.ntmps154 rfl fun w0 => ?_
  refine code_seq ?_
  refine code_region ?_
  refine op_v (v_assign rfl) rfl ?_
  refine ops_nil ?_
  refine post_next ?_
  refine code_seq ?_
  refine code_region ?_
  refine op_v (v_assign rfl) rfl ?_
  refine ops_nil ?_
  refine post_next ?_
  refine code_seq ?_
  refine code_seq ?_
  refine code_region ?_
  refine op_v (v_move rfl) rfl ?_
  refine op_v (v_len Try.underlying51 rfl) rfl ?_
  refine op_v (v_move rfl) rfl ?_
  refine ops_nil ?_
  refine post_next ?_
  refine code_block ?_
  refine code_loop (fun m σ' I' δ' => ∃ (k : Nat) (last : Int), m = bs.length - k ∧ k ≤ bs.length ∧ σ' = [(3, .int .i64 last), (6, .slice ad bs.length c), (7, .int .i64 bs.length), (8, .int .i64 k)] ∧ I.le I' ∧ δ' = [] ∧ last = (if k = 0 then -1 else (bs.getD (k - 1) (0, zeroT)).1) ∧ ∀ i (h : i < bs.length), i < k → badBi (if i = 0 then -1 else (bs.getD (i - 1) (0, zeroT)).1) bs[i] = false) bs.length [(3, .int .i64 (-1)), (6, .slice ad bs.length c), (7, .int .i64 bs.length), (8, .int .i64 (0 : Nat))] ⟨0, -1, rfl, Nat.zero_le _, rfl, Imm.le_refl _, rfl, rfl, fun i _ h => by omega⟩ ⟨rfl, rfl, rfl, rfl, trivial⟩ ?_
  rintro m _ I0 _ ⟨k, last, rfl, hk, rfl, hI0, rfl, hlast, hp⟩
  refine code_seq ?_
  refine code_region ?_
  refine op_v (v_cmp rfl rfl rfl) rfl ?_
  refine ops_nil ?_
  refine post_next ?_
  refine code_seq ?_
  refine code_cond rfl (fun hc0 => ?_) (fun hc0 => ?_)
  · have hlt : k < bs.length := by simpa using hc0
    have hs1 := (hat k hlt).isSome
    have hkr := hr k hlt
    unfold InR at hkr
    refine code_skip ?_
    refine post_next ?_
    refine code_seq ?_
    refine code_block ?_
    refine code_seq ?_
    refine code_region ?_
    refine op_v (v_indexA Try.underlying51 sz54 rfl rfl) rfl ?_
    refine op_v (v_loadI0 ty54 ((hat k hlt).mono hI0) rfl rfl rfl) rfl ?_
    refine o_alloc z54 rfl rfl (fun b5 => ?_)
    refine o_store ty54 rfl rfl rfl rfl rfl (by repeat (first | exact Swap.here | apply Swap.there)) rfl ?_
    refine ops_nil ?_
    refine post_next ?_
    refine code_seq ?_
    refine code_seq ?_
    refine code_region ?_
    refine op_v (v_fieldB 0 Try.underlying54 rfl rfl fz3 rfl) rfl ?_
    refine op_v (v_loadA ty3 rfl rfl) rfl ?_
    refine op_v (v_move rfl) rfl ?_
    by_cases h15 : bs[k].1 ≤ last
    · refine op_v (v_cmptA rfl rfl rfl) rfl ?_
      refine op_v (v_move rfl) rfl ?_
      refine op_skip rfl rfl (by simp [undef]) rfl ?_
      refine op_skip rfl rfl (by simp [undef]) rfl ?_
      refine op_skip rfl rfl (by simp [undef]) rfl ?_
      refine op_v (v_pickt rfl rfl) rfl ?_
      refine op_v (v_move rfl) rfl ?_
      refine op_skip rfl rfl (by simp [undef]) rfl ?_
      refine op_skip rfl rfl (by simp [undef]) rfl ?_
      refine op_skip rfl rfl (by simp [undef]) rfl ?_
      refine op_skip rfl rfl (by simp [undef]) rfl ?_
      refine op_v (v_pickt rfl rfl) rfl ?_
      refine op_v (v_move rfl) rfl ?_
      refine op_skip rfl rfl (by simp [undef]) rfl ?_
      refine op_skip rfl rfl (by simp [undef]) rfl ?_
      refine op_skip rfl rfl (by simp [undef]) rfl ?_
      refine op_skip rfl rfl (by simp [undef]) rfl ?_
      refine op_skip rfl rfl (by simp [undef]) rfl ?_
      refine op_skip rfl rfl (by simp [undef]) rfl ?_
      refine op_skip rfl rfl (by simp [undef]) rfl ?_
      refine op_v (v_pickt rfl rfl) rfl ?_
      refine ops_nil ?_
      refine post_next ?_
      refine code_cond_t rfl ?_
      refine code_seq ?_
      refine code_region ?_
      refine op_v (v_assign rfl) rfl ?_
      refine ops_nil ?_
      refine post_next ?_
      refine code_ret ?_
      refine post_ret_then ?_
      refine post_ret_block ?_
      refine post_ret_then ?_
      refine post_ret_then ?_
      refine post_ret_block ?_
      refine post_ret_then ?_
      refine post_ret (rs := [.tmp 2]) rfl (List.Perm.refl _) (.cons (.tmp rfl) .nil) (List.nil_sublist _) ?_
      exact ⟨⟨1, rfl, .inr ⟨rfl, fun h => by have := h k hlt; rw [← hlast] at this; simp [badBi, h15] at this⟩⟩, rfl⟩
    · refine op_v (v_cmpfA rfl rfl rfl) rfl ?_
      refine op_v (v_move rfl) rfl ?_
      first
        | (refine op_want rfl rfl ?_
           refine op_v (v_fieldB 0 Try.underlying54 rfl rfl fz3 rfl) rfl ?_)
        | (refine op_skip rfl rfl (by simp [undef]) rfl ?_)
      refine op_want rfl rfl ?_
      refine op_v (v_loadA ty3 rfl rfl) rfl ?_
      by_cases h19 : 255 < bs[k].1
      · first
          | (refine op_want rfl rfl ?_
             refine op_v (v_cmptA rfl rfl rfl) rfl ?_)
          | (refine op_skip rfl rfl (by simp [undef]) rfl ?_)
        refine op_v (v_pickf rfl rfl) rfl ?_
        refine op_v (v_move rfl) rfl ?_
        refine op_skip rfl rfl (by simp [undef]) rfl ?_
        refine op_skip rfl rfl (by simp [undef]) rfl ?_
        refine op_skip rfl rfl (by simp [undef]) rfl ?_
        refine op_skip rfl rfl (by simp [undef]) rfl ?_
        refine op_v (v_pickt rfl rfl) rfl ?_
        refine op_v (v_move rfl) rfl ?_
        refine op_skip rfl rfl (by simp [undef]) rfl ?_
        refine op_skip rfl rfl (by simp [undef]) rfl ?_
        refine op_skip rfl rfl (by simp [undef]) rfl ?_
        refine op_skip rfl rfl (by simp [undef]) rfl ?_
        refine op_skip rfl rfl (by simp [undef]) rfl ?_
        refine op_skip rfl rfl (by simp [undef]) rfl ?_
        refine op_skip rfl rfl (by simp [undef]) rfl ?_
        refine op_v (v_pickt rfl rfl) rfl ?_
        refine ops_nil ?_
        refine post_next ?_
        refine code_cond_t rfl ?_
        refine code_seq ?_
        refine code_region ?_
        refine op_v (v_assign rfl) rfl ?_
        refine ops_nil ?_
        refine post_next ?_
        refine code_ret ?_
        refine post_ret_then ?_
        refine post_ret_block ?_
        refine post_ret_then ?_
        refine post_ret_then ?_
        refine post_ret_block ?_
        refine post_ret_then ?_
        refine post_ret (rs := [.tmp 2]) rfl (List.Perm.refl _) (.cons (.tmp rfl) .nil) (List.nil_sublist _) ?_
        exact ⟨⟨1, rfl, .inr ⟨rfl, fun h => by have := h k hlt; rw [← hlast] at this; simp [badBi, h19] at this⟩⟩, rfl⟩
      · first
          | (refine op_want rfl rfl ?_
             refine op_v (v_cmpfA rfl rfl rfl) rfl ?_)
          | (refine op_skip rfl rfl (by simp [undef]) rfl ?_)
        refine op_v (v_pickf rfl rfl) rfl ?_
        refine op_v (v_move rfl) rfl ?_
        first
          | (refine op_want rfl rfl ?_
             refine op_v (v_fieldB 1 Try.underlying54 rfl rfl fz47 rfl) rfl ?_)
          | (refine op_skip rfl rfl (by simp [undef]) rfl ?_)
        refine op_want rfl rfl ?_
        refine op_v (v_loadA ty47 rfl rfl) rfl ?_
        refine op_want rfl rfl ?_
        refine op_call pl105 rfl rfl ((TCheck_does ((hsub k hlt).mono hI0) (hbig _ (List.getElem_mem _)))) Parts.none ?_
        rintro v24 I24 _ hI24 ⟨rfl, rfl⟩
        by_cases h25 : chkT bs[k].2 ≠ 0
        · first
            | (refine op_want rfl rfl ?_
               refine op_v (v_cmptA rfl rfl rfl) rfl ?_)
            | (refine op_skip rfl rfl (by simp [undef]) rfl ?_)
          refine op_v (v_pickf rfl rfl) rfl ?_
          refine op_v (v_move rfl) rfl ?_
          refine op_skip rfl rfl (by simp [undef]) rfl ?_
          refine op_skip rfl rfl (by simp [undef]) rfl ?_
          refine op_skip rfl rfl (by simp [undef]) rfl ?_
          refine op_skip rfl rfl (by simp [undef]) rfl ?_
          refine op_skip rfl rfl (by simp [undef]) rfl ?_
          refine op_skip rfl rfl (by simp [undef]) rfl ?_
          refine op_skip rfl rfl (by simp [undef]) rfl ?_
          refine op_v (v_pickt rfl rfl) rfl ?_
          refine ops_nil ?_
          refine post_next ?_
          refine code_cond_t rfl ?_
          refine code_seq ?_
          refine code_region ?_
          refine op_v (v_assign rfl) rfl ?_
          refine ops_nil ?_
          refine post_next ?_
          refine code_ret ?_
          refine post_ret_then ?_
          refine post_ret_block ?_
          refine post_ret_then ?_
          refine post_ret_then ?_
          refine post_ret_block ?_
          refine post_ret_then ?_
          refine post_ret (rs := [.tmp 2]) rfl (List.Perm.refl _) (.cons (.tmp rfl) .nil) (List.nil_sublist _) ?_
          exact ⟨⟨1, rfl, .inr ⟨rfl, fun h => by have := h k hlt; rw [← hlast] at this; simp [badBi, h25] at this⟩⟩, rfl⟩
        · first
            | (refine op_want rfl rfl ?_
               refine op_v (v_cmpfA rfl rfl rfl) rfl ?_)
            | (refine op_skip rfl rfl (by simp [undef]) rfl ?_)
          refine op_v (v_pickf rfl rfl) rfl ?_
          refine op_v (v_move rfl) rfl ?_
          first
            | (refine op_want rfl rfl ?_
               refine op_v (v_fieldB 1 Try.underlying54 rfl rfl fz47 rfl) rfl ?_)
            | (refine op_skip rfl rfl (by simp [undef]) rfl ?_)
          first
            | (refine op_want rfl rfl ?_
               refine op_v (v_fieldB 0 Try.underlying47 rfl rfl fz3 rfl) rfl ?_)
            | (refine op_skip rfl rfl (by simp [undef]) rfl ?_)
          refine op_want rfl rfl ?_
          refine op_v (v_loadA ty3 rfl rfl) rfl ?_
          first
            | (refine op_want rfl rfl ?_
               refine op_v (v_fieldB 0 Try.underlying54 rfl rfl fz3 rfl) rfl ?_)
            | (refine op_skip rfl rfl (by simp [undef]) rfl ?_)
          refine op_want rfl rfl ?_
          refine op_v (v_loadA ty3 rfl rfl) rfl ?_
          first
            | (refine op_want rfl rfl ?_
               refine op_v (v_subb rfl rfl rfl (by omega)) rfl ?_)
            | (refine op_skip rfl rfl (by simp [undef]) rfl ?_)
          by_cases h34 : bs[k].2.head = -1 - bs[k].1
          · first
              | (refine op_want rfl rfl ?_
                 refine op_v (v_cmptA rfl rfl rfl) rfl ?_)
              | (refine op_skip rfl rfl (by simp [undef]) rfl ?_)
            refine op_v (v_pickf rfl rfl) rfl ?_
            refine ops_nil ?_
            refine post_next ?_
            refine code_cond_t rfl ?_
            refine code_seq ?_
            refine code_region ?_
            refine op_v (v_assign rfl) rfl ?_
            refine ops_nil ?_
            refine post_next ?_
            refine code_ret ?_
            refine post_ret_then ?_
            refine post_ret_block ?_
            refine post_ret_then ?_
            refine post_ret_then ?_
            refine post_ret_block ?_
            refine post_ret_then ?_
            refine post_ret (rs := [.tmp 2]) rfl (List.Perm.refl _) (.cons (.tmp rfl) .nil) (List.nil_sublist _) ?_
            exact ⟨⟨1, rfl, .inr ⟨rfl, fun h => by have := h k hlt; rw [← hlast] at this; simp [badBi, h34] at this⟩⟩, rfl⟩
          · first
              | (refine op_want rfl rfl ?_
                 refine op_v (v_cmpfA rfl rfl rfl) rfl ?_)
              | (refine op_skip rfl rfl (by simp [undef]) rfl ?_)
            refine op_v (v_pickf rfl rfl) rfl ?_
            refine ops_nil ?_
            refine post_next ?_
            refine code_cond_f rfl ?_
            refine code_skip ?_
            refine post_next ?_
            refine code_region ?_
            refine op_v (v_fieldB 0 Try.underlying54 rfl rfl fz3 rfl) rfl ?_
            refine op_v (v_loadA ty3 rfl rfl) rfl ?_
            refine op_v (v_assign rfl) rfl ?_
            refine ops_nil ?_
            refine post_out ?_
            refine post_next ?_
            refine code_region ?_
            refine op_v (v_addb rfl rfl rfl (by omega)) rfl ?_
            refine op_v (v_move rfl) rfl ?_
            refine ops_nil ?_
            refine PostJ.view (View.drop Del.here) ?_
            refine post_again (bs.length - (k + 1)) [(3, .int .i64 bs[k].1), (6, .slice ad bs.length c), (7, .int .i64 bs.length), (8, .int .i64 (k + 1 : Nat))] (by omega) ⟨k + 1, bs[k].1, rfl, hlt, rfl, Imm.leA, rfl, by simp [List.getElem?_eq_getElem hlt], ?_⟩ ⟨rfl, rfl, rfl, rfl, trivial⟩
            intro i h hi
            rcases Nat.lt_or_ge i k with hik | hik
            · exact hp i h hik
            have hik2 : i = k := by omega
            subst hik2
            rw [← hlast]
            simp [badBi, h25, h34]
            omega
  · have hge : k = bs.length := by simp at hc0; omega
    refine code_exit ?_
    refine post_exit_then ?_
    refine post_exit_then ?_
    refine post_exit ?_
    refine post_next ?_
    refine code_seq ?_
    refine code_region ?_
    refine op_v (v_assign rfl) rfl ?_
    refine ops_nil ?_
    refine post_next ?_
    refine code_ret ?_
    refine post_ret (rs := [.tmp 2]) rfl (List.Perm.refl _) (.cons (.tmp rfl) .nil) (List.nil_sublist _) ?_
    exact ⟨⟨0, rfl, .inl ⟨rfl, fun i h => hp i h (by omega)⟩⟩, rfl⟩
theorem end_does {I : Imm} {v : Value} {t : T} (hv : RepT I v t) (hbig : t.size ≤ 1000000000) :
    Does Try.prog 143 [v] I [] (fun v I' δ' => (∃ u, v = .tuple #[u, .int .i64 (chkT t)] ∧ RepT I' u (if chkT t = 0 then t else zeroT)) ∧ δ' = []) := by
  obtain ⟨a0, c0, rfl, hr0⟩ := hv.shape
  refine Does.intro Try.func143 rfl Try.ntmps143 rfl fun w0 => ?_
  refine code_seq ?_
  refine code_region ?_
  refine o_box rfl rfl rfl (fun b1 => ?_)
  refine o_alloc z47 rfl rfl (fun b2 => ?_)
  refine op_v (v_assign rfl) rfl ?_
  refine ops_nil ?_
  refine post_next ?_
  refine code_seq ?_
  refine code_seq ?_
  refine code_region ?_
  refine op_v (v_loadA ty47 rfl rfl) rfl ?_
  refine op_call pl105 rfl rfl ((TCheck_does hv hbig)) Parts.none ?_
  rintro v6 I6 _ hI6 ⟨rfl, rfl⟩
  refine op_v (v_assign rfl) rfl ?_
  refine ops_nil ?_
  refine post_next ?_
  refine code_seq ?_
  refine code_region ?_
  refine op_v (v_move rfl) rfl ?_
  by_cases h8 : chkT t ≠ 0
  · refine op_v (v_cmptA rfl rfl rfl) rfl ?_
    refine ops_nil ?_
    refine post_next ?_
    refine code_cond_t rfl ?_
    refine code_seq ?_
    refine code_region ?_
    refine op_v (v_build bl47 rfl rfl) rfl ?_
    refine op_v (v_move rfl) rfl ?_
    refine o_store ty47 rfl rfl rfl rfl rfl (by repeat (first | exact Swap.here | apply Swap.there)) rfl ?_
    refine op_v (v_assign rfl) rfl ?_
    refine ops_nil ?_
    refine post_next ?_
    refine code_ret ?_
    refine post_ret_then ?_
    refine post_ret (rs := [.cell 2 47, .tmp 3]) rfl (List.Perm.refl _) (.cons (.cell rfl ty47 (by repeat (first | exact Has.here | apply Has.there)) rfl) (.cons (.tmp rfl) .nil)) (List.nil_sublist _) ?_
    exact ⟨⟨_, rfl, by rw [if_neg h8]; exact zeroT_rep _⟩, rfl⟩
  · refine op_v (v_cmpfA rfl rfl rfl) rfl ?_
    refine ops_nil ?_
    refine post_next ?_
    refine code_cond_f rfl ?_
    refine code_skip ?_
    refine post_next ?_
    refine code_seq ?_
    refine code_region ?_
    refine op_v (v_loadA ty47 rfl rfl) rfl ?_
    refine o_store ty47 rfl rfl rfl rfl rfl (by repeat (first | exact Swap.here | apply Swap.there)) rfl ?_
    refine op_v (v_assign rfl) rfl ?_
    refine ops_nil ?_
    refine post_next ?_
    refine code_ret ?_
    refine post_ret (rs := [.cell 2 47, .tmp 3]) rfl (List.Perm.refl _) (.cons (.cell rfl ty47 (by repeat (first | exact Has.here | apply Has.there)) rfl) (.cons (.tmp rfl) .nil)) (List.nil_sublist _) ?_
    have h8' : chkT t = 0 := by simpa using h8
    exact ⟨⟨_, by rw [h8']; rfl, by rw [if_pos h8']; exact hv.mono hI6⟩, rfl⟩
end Go.Proofs.Ytdbadicpbmndbaa
/- Matching: what stands for variables, and which literals are as which. Plain definitions and facts; no condition. -/
set_option linter.unusedVariables false
set_option linter.unusedSimpArgs false
namespace Go.Proofs.Ytdbadicpbmndbaa
open Go Lg

def pT (θ : Int → T) (t : T) : T := rbT (fun u => θ (-1 - u.head)) t
def pL (θ : Int → T) (ts : List T) : List T := rbL (fun u => θ (-1 - u.head)) ts
theorem pT_mk (θ : Int → T) (h : Int) (us : List T) : pT θ (.mk h us) = if h < 0 then θ (-1 - h) else .mk h (pL θ us) := by
  unfold pT pL; simp only [rbT, T.head]
theorem pT_neg {θ : Int → T} {t : T} (h : t.head < 0) : pT θ t = θ (-1 - t.head) := by
  obtain ⟨k, us⟩ := t; rw [pT_mk]; exact if_pos h
theorem pT_pos {θ : Int → T} {t : T} (h : ¬ t.head < 0) : pT θ t = .mk t.head (pL θ t.args) := by
  obtain ⟨k, us⟩ := t; rw [pT_mk]; exact if_neg h
theorem pL_map (θ : Int → T) (ts : List T) : pL θ ts = ts.map (pT θ) := rbL_map _ _
theorem pT_pos_eq {θ : Int → T} {p t : T} (h : ¬ p.head < 0) : pT θ p = t ↔ p.head = t.head ∧ p.args.length = t.args.length ∧ ∀ i (h1 : i < p.args.length) (h2 : i < t.args.length), pT θ p.args[i] = t.args[i] := by
  rw [pT_pos h]
  obtain ⟨k, us⟩ := t
  constructor
  · intro e
    have e1 : p.head = k := congrArg T.head e
    have e2 : pL θ p.args = us := congrArg T.args e
    refine ⟨e1, ?_, fun i h1 h2 => ?_⟩
    · show p.args.length = us.length
      rw [← e2, pL_map, List.length_map]
    · subst e2
      show pT θ p.args[i] = (pL θ p.args)[i]'h2
      simp only [pL_map, List.getElem_map]
  · rintro ⟨e1, e2, e3⟩
    have : pL θ p.args = us := by
      rw [pL_map]
      refine List.ext_getElem (by rw [List.length_map]; exact e2) fun i h1 h2 => ?_
      rw [List.getElem_map]
      exact e3 i (by simpa using h1) h2
    rw [this]
    show T.mk p.head us = T.mk k us
    rw [show p.head = k from e1]
/-- all binds are as said -/
def Ext (θ : Int → T) (bs : List Bi) : Prop := ∀ v t, ofB bs v = some t → θ v = t
theorem Ext_nil (θ : Int → T) : Ext θ [] := fun v t h => by simp [ofB] at h
theorem Ext_cons {θ : Int → T} {bs : List Bi} {v : Int} {t : T} (h : ofB bs v = none ∨ ofB bs v = some t) : Ext θ ((v, t) :: bs) ↔ Ext θ bs ∧ θ v = t := by
  constructor
  · intro hx
    have hv : θ v = t := hx v t (by simp [ofB])
    refine ⟨fun w u hw => ?_, hv⟩
    by_cases e : v = w
    · subst e
      rcases h with h | h
      · rw [h] at hw; cases hw
      · rw [h] at hw; cases hw; exact hv
    · exact hx w u (by simp only [ofB]; rw [if_neg e]; exact hw)
  · rintro ⟨hx, hv⟩ w u hw
    simp only [ofB] at hw
    by_cases e : v = w
    · rw [if_pos e] at hw; cases hw; rw [← e]; exact hv
    · rw [if_neg e] at hw; exact hx w u hw
theorem Ext_no {θ : Int → T} {bs : List Bi} {v : Int} {u t : T} (h : ofB bs v = some u) (hne : u ≠ t) : ¬ (Ext θ bs ∧ θ v = t) := fun ⟨hx, hv⟩ => hne ((hx v u h).symm.trans hv)
def SmB (bs : List Bi) : Prop := ∀ b ∈ bs, b.2.size ≤ 1000000000
theorem SmB.get {bs : List Bi} (h : SmB bs) {v : Int} {t : T} (e : ofB bs v = some t) : t.size ≤ 1000000000 := by
  obtain ⟨b, hb, _, rfl⟩ := ofB_mem e; exact h b hb
theorem SmB.cons {bs : List Bi} (h : SmB bs) {v : Int} {t : T} (ht : t.size ≤ 1000000000) : SmB ((v, t) :: bs) := fun b hb => by
  rcases List.mem_cons.1 hb with rfl | hb
  · exact ht
  · exact h b hb
/-! ### literals -/
def kindB (l : Li) : Bool := decide (l.l.head = 0) || decide (l.r.head = 0)
def litM (θ : Int → T) (a l : Li) : Prop := kindB a = kindB l ∧ ((pT θ a.l = l.l ∧ pT θ a.r = l.r) ∨ (pT θ a.l = l.r ∧ pT θ a.r = l.l))
def SubS (θ : Int → T) (d : List Li) : List Bool → List Li → Prop
  | _, [] => True
  | us, a :: r => ∃ (k : Nat) (h : k < d.length), us[k]? = some false ∧ d[k].neg = a.neg ∧ litM θ a d[k] ∧ SubS θ d (us.set k true) r
def SubB (bs : List Bi) (d : List Li) (us : List Bool) (c : List Li) : Prop := ∃ θ, Ext θ bs ∧ SubS θ d us c
/-- the literal at k will do -/
def SubK (bs : List Bi) (d : List Li) (us : List Bool) (a : Li) (r : List Li) (k : Nat) : Prop := ∃ (h : k < d.length), us[k]? = some false ∧ d[k].neg = a.neg ∧ ∃ θ, Ext θ bs ∧ litM θ a d[k] ∧ SubS θ d (us.set k true) r
theorem SubB_cons {bs : List Bi} {d : List Li} {us : List Bool} {a : Li} {r : List Li} : SubB bs d us (a :: r) ↔ ∃ k, SubK bs d us a r k := by
  constructor
  · rintro ⟨θ, h1, k, hk, h2, h3, h4, h5⟩; exact ⟨k, hk, h2, h3, θ, h1, h4, h5⟩
  · rintro ⟨k, hk, h2, h3, θ, h1, h4, h5⟩; exact ⟨θ, h1, k, hk, h2, h3, h4, h5⟩
theorem SubB_nil {bs : List Bi} {d : List Li} {us : List Bool} : SubB bs d us [] := ⟨fun v => (ofB bs v).getD zeroT, fun v t h => by simp [h], trivial⟩
/-! ### stacks of pairs -/
def StM (θ : Int → T) (xs ys : List T) : Prop := xs.length = ys.length ∧ ∀ i (h1 : i < xs.length) (h2 : i < ys.length), pT θ xs[i] = ys[i]
theorem StM_nil (θ : Int → T) : StM θ [] [] := ⟨rfl, fun i h => by simp at h⟩
theorem StM_snoc {θ : Int → T} {xs ys : List T} {x y : T} (hl : xs.length = ys.length) : StM θ (xs ++ [x]) (ys ++ [y]) ↔ StM θ xs ys ∧ pT θ x = y := by
  constructor
  · rintro ⟨h1, h2⟩
    refine ⟨⟨hl, fun i k1 k2 => ?_⟩, ?_⟩
    · have := h2 i (by simp; omega) (by simp; omega)
      rwa [List.getElem_append_left k1, List.getElem_append_left k2] at this
    · have := h2 xs.length (by simp) (by simp; omega)
      simpa [hl] using this
  · rintro ⟨⟨h1, h2⟩, h3⟩
    refine ⟨by simp [hl], fun i k1 k2 => ?_⟩
    by_cases q : i < xs.length
    · rw [List.getElem_append_left q, List.getElem_append_left (by omega)]; exact h2 i q (by omega)
    · have e : i = xs.length := by simp at k1; omega
      subst e
      simpa [hl] using h3
theorem StM_app {θ : Int → T} : ∀ {xs ys us vs : List T}, xs.length = ys.length → us.length = vs.length → (StM θ (xs ++ us) (ys ++ vs) ↔ StM θ xs ys ∧ StM θ us vs) := by
  intro xs ys us vs hl hk
  constructor
  · rintro ⟨h1, h2⟩
    refine ⟨⟨hl, fun i k1 k2 => ?_⟩, hk, fun i k1 k2 => ?_⟩
    · have := h2 i (by simp; omega) (by simp; omega)
      rwa [List.getElem_append_left k1, List.getElem_append_left k2] at this
    · have := h2 (xs.length + i) (by simp; omega) (by simp; omega)
      rw [List.getElem_append_right (by omega), List.getElem_append_right (by omega)] at this
      simpa [hl] using this
  · rintro ⟨⟨h1, h2⟩, h3, h4⟩
    refine ⟨by simp [hl, hk], fun i k1 k2 => ?_⟩
    by_cases q : i < xs.length
    · rw [List.getElem_append_left q, List.getElem_append_left (by omega)]; exact h2 i q (by omega)
    · rw [List.getElem_append_right (by omega), List.getElem_append_right (by omega)]
      have := h4 (i - xs.length) (by simp at k1; omega) (by simp at k2; omega)
      simpa [hl] using this
theorem pT_pos_st {θ : Int → T} {p t : T} (h : ¬ p.head < 0) (e1 : p.head = t.head) (e2 : p.args.length = t.args.length) : pT θ p = t ↔ StM θ p.args t.args := by
  rw [pT_pos_eq h]
  constructor
  · rintro ⟨_, _, h3⟩; exact ⟨e2, h3⟩
  · rintro ⟨_, h3⟩; exact ⟨e1, e2, h3⟩
end Go.Proofs.Ytdbadicpbmndbaa
/- Walks: the document's answer: what stands for each variable. -/
set_option linter.unusedVariables false
set_option linter.unusedSimpArgs false
set_option linter.unnecessarySimpa false
/- short -/
namespace Go.Proofs.Ytdbadicpbmndbaa
open Go Lg

theorem Lg.CodeJ.rowSome {C : Ctx} {Q : Exit → Act → World → Prop} {σ : Env} {ds : List Nat} {I : Imm} {δ : List Ent} {cd : Code} {A : Option Addr} {c n size : Nat} {e : TypeId} {xs : List Value} (hd : Has δ (.row (.slice A n c) e size n xs)) (hn : 0 < n)
    (h : A.isSome = true → n ≤ c → CodeJ C cd Q σ ds I δ) : CodeJ C cd Q σ ds I δ := by
  intro a w he hs ht
  have hr : w.ownsRow 0 e size (.slice A n c) n xs := hs.ents _ hd.mem
  rcases hr.2 with ⟨h1, h2⟩ | ⟨g, cap, cur, h1, _, _, h3, _⟩
  · omega
  · cases h1
    exact h rfl h3 a w he hs ht
theorem RepS.rowP {I : Imm} {v : Value} {ts : List T} (h : RepS I v ts) : ∃ (A : Option Addr) (c : Nat) (ss : Nat → Option Addr × Nat) (xs : List Value), v = .slice A ts.length c ∧ Cells I A xs ∧ RowT I xs ts ∧ ts.length ≤ 4398046511104 ∧ ∀ i (h : i < ts.length), At I A (i * 2) [.int .i64 ts[i].head, .slice (ss i).1 ts[i].args.length (ss i).2] ∧ RepT I (.agg #[.int .i64 ts[i].head, .slice (ss i).1 ts[i].args.length (ss i).2]) ts[i] := by
  obtain ⟨A, c, ss, L, hc, hb, hat2, hr, hsub0⟩ := h
  have hs := fun i (hi : i < ts.length) => RepT.mk _ _ (hr i hi) (hsub0 i hi)
  obtain ⟨h1, h2⟩ := RowT.of hat2 hs
  exact ⟨A, c, ss, _, rfl, h1, h2, hb, fun i hi => ⟨hat2 i hi, hs i hi⟩⟩
end Go.Proofs.Ytdbadicpbmndbaa
/- Walks: the document's answer: binds by which a literal is another one. -/
set_option linter.unusedVariables false
set_option linter.unusedSimpArgs false
set_option linter.unnecessarySimpa false
/- short -/
namespace Go.Proofs.Ytdbadicpbmndbaa
open Go Lg

end Go.Proofs.Ytdbadicpbmndbaa
/- The rules of the logic: arrays as values. No condition. -/
set_option linter.unusedVariables false
set_option linter.unusedSimpArgs false
namespace Go.Proofs.Ytdbadicpbmndbaa.Lg
open Go Go.RowKit

variable {C : Ctx} {Q : Exit → Act → World → Prop} {σ : Env} {ds : List Nat} {I : Imm} {δ : List Ent} {ops : Array Oper} {rest : List Oper}
variable {d : Nat} {ty : TypeId} {pos : String} {after : Array Edge}

/-- an array out of its parts; what the instruction yields is computed -/
theorem v_buildK {t : TypeId} {parts : List (Nat × Operand)} {vs : List (Nat × Value)} {v : Value} (hx : evP σ parts = some vs) (h : ∀ w, (Instr.build t vs.toArray).run C.P w = .ok v w) :
    ValJ C σ ds I δ (.build t parts.toArray) v :=
  fun _ _ _ _ _ a w he _ => by
    have hmap : parts.toArray.map (fun (x : Nat × Operand) => match x with | (i, x) => (i, a.eval x)) = vs.toArray := by
      rw [← evP_ok he hx]; simp
    simp only [execOp, hmap, Sem.run_bind, h, Result.andThen]; rfl
end Go.Proofs.Ytdbadicpbmndbaa.Lg
/- The rules of the logic: maps against nil, a map in an interface, a map's clone. No condition. -/
set_option linter.unusedVariables false
set_option linter.unusedSimpArgs false
namespace Go.Proofs.Ytdbadicpbmndbaa.Lg
open Go Go.RowKit

variable {C : Ctx} {Q : Exit → Act → World → Prop} {σ : Env} {ds : List Nat} {I : Imm} {δ : List Ent} {ops : Array Oper} {rest : List Oper}
variable {d : Nat} {ty : TypeId} {pos : String} {after : Array Edge}

def cmpM : BinOp → Option Nat → Option Bool
  | .eql, a => some a.isNone
  | .neq, a => some a.isSome
  | _, _ => none
theorem v_mapq {op : BinOp} {t kt e : TypeId} {t' : TypeId} {x y : Operand} {p : Option Nat} {z : Bool} (ht : C.P.underlying t = some (.map kt e))
    (hx : evS σ x = some (.map p)) (hy : evS σ y = some (.map none)) (hz : cmpM op p = some z) : ValJ C σ ds I δ (.binOp op t x y t') (.bool z) :=
  v_bin hx hy (fun w => by unfold eqGuard; cases op <;> rfl) (fun w => by
    have hu : (underlying t).run C.P w = .ok (.map kt e) w := by simp [underlying, program, Sem.run, ht]
    have he : (Op.equal t (.map p) (.map none)).run C.P w = .ok p.isNone w := by
      show (Op.equalIn (9999 + 1) t (.map p) (.map none)).run C.P w = _
      rw [Op.equalIn]
      simp only [Sem.run_bind, hu, Result.andThen]
      cases p <;> rfl
    have h2 : ∀ f : Bool → Bool, (do pure (Value.bool (f (← Op.equal t (.map p) (.map none)))) : Sem Value).run C.P w = .ok (.bool (f p.isNone)) w := fun f => by simp only [Sem.run_bind, he, Result.andThen]; rfl
    cases op <;> simp only [cmpM, Option.some.injEq, reduceCtorEq] at hz
    · subst hz; exact h2 id
    · subst hz; have := h2 not; cases p <;> exact this)
theorem v_ifaceM {t kt e : TypeId} {x : Operand} {v : Value} (ht : C.P.underlying t = some (.map kt e)) (hx : evS σ x = some v) : ValJ C σ ds I δ (.makeInterface t x) (.iface t v) :=
  fun _ _ _ _ _ a w he _ => by
    have hu : (underlying t).run C.P w = .ok (.map kt e) w := by simp [underlying, program, Sem.run, ht]
    simp [execOp, he.ev hx, Instr.makeInterface, hu, Result.andThen]
theorem v_assertM {t xT kt e : TypeId} {x : Operand} {v : Value} (ht : C.P.underlying t = some (.map kt e)) (hx : evS σ x = some (.iface t v)) : ValJ C σ ds I δ (.typeAssert x xT t false) v :=
  fun _ _ _ _ _ a w he _ => by
    have hu : (underlying t).run C.P w = .ok (.map kt e) w := by simp [underlying, program, Sem.run, ht]
    simp [execOp, he.ev hx, Instr.typeAssert, hu, Result.andThen]
theorem v_indexArr {C : Ctx} {σ : Env} {ds : List Nat} {I : Imm} {δ : List Ent} {t e : TypeId} {x y : Operand} {b n i size : Nat} (ht : C.P.underlying t = some (.array n e)) (hsz : (C.P.info? e).map (·.size) = some size)
    (hx : evS σ x = some (.pointer (some ⟨b, 0, none⟩))) (hy : evS σ y = some (.int .i64 (i : Int))) (hi : i < n) : ValJ C σ ds I δ (.indexAddr t x y) (.pointer (some ⟨b, i * size, none⟩)) :=
  fun _ _ _ _ _ => (fun a w he _ => by
    have hu : (underlying t).run C.P w = .ok (.array n e) w := by simp [underlying, program, Sem.run, ht]
    cases hq : C.P.info? e with
    | none => simp [hq] at hsz
    | some inf =>
      simp [hq] at hsz
      simp [execOp, he.ev hx, he.ev hy, Instr.indexAt, asIntOf, hu, Instr.sureAddr, sizeOf, typeInfo, program, Sem.run, hq, hsz, Addr.add]
      split
      · simp; intro q; exact q.symm
      · omega)
theorem o_mapsClone {f : FuncId} {fn : Func} {t : TypeId} {x : Operand} {tys : Array TypeId} {b : Nat} {xs : Mp}
    (hf : C.P.funcs[f]? = some fn) (hname : (fn.name == "runtime.NumGoroutine") = false) (hb : fn.body.isNone = true) (hn : Extern.findNext fn = none) (he : Extern.find fn = some Extern.MapsClone.clone)
    (hd : Nat.blt d C.n = true) (hx : evS σ x = some (.iface t (.map (some b)))) (hh : Has δ (.map b xs))
    (k : ∀ b', OpsJ C ops Q rest ((d, .iface t (.map (some b'))) :: σ) ds I (.map b' xs :: δ)) :
    OpsJ C ops Q ({ dst := some d, op := .call { callee := .value (.func f), args := #[x], argTypes := tys }, type := ty, pos := pos, after := after, guard := none } :: rest) σ ds I δ :=
  op_step rfl rfl hd (by intro c hc; cases hc) (fun a w he' hs => by
    obtain ⟨es, clock, hb', hm⟩ := hs.ents _ hh.mem
    obtain ⟨s', t'⟩ := hs.alloc (.map w.heap.size xs) (.map es clock) rfl ⟨es, clock, heap_alloc_new w _, hm⟩
    refine ⟨_, _, _, _, ?_, s', t', k w.heap.size⟩
    have e1 : Extern.MapsClone.clone #[.iface t (.map (some b))] = (getObj b >>= fun o => match o with
      | .map entries clock => (newObj (.map entries clock) >>= fun n => pure (.iface t (.map (some n))))
      | _ => stuck "maps.clone: a map expected") := rfl
    have e2 : (Extern.MapsClone.clone #[.iface t (.map (some b))]).run C.P w = .ok (.iface t (.map (some w.heap.size))) (w.alloc (.map es clock)) := by
      rw [e1]; simp [MapKept.run_getObj_map hb', Result.andThen, newObj, Sem.run]
    have e3 : (callFunc f #[.iface t (.map (some b))]).run C.P w = .ok (.value (.iface t (.map (some w.heap.size)))) (w.alloc (.map es clock)) := by
      rw [run_callFunc_extern hf hname hb hn he, e2]; rfl
    have e4 : (execOp a.eval { dst := some d, op := .call { callee := .value (.func f), args := #[x], argTypes := tys }, type := ty, pos := pos, after := after, guard := none }).run C.P w = (callFunc f #[.iface t (.map (some b))]).run C.P w := by
      have hev : a.eval (.func f) = .func (.func f) #[] #[] := rfl
      simp only [execOp, resolve, Sem.run_bind, Sem.run_pure, Result.andThen]
      simp [he'.ev hx, hev, Deferred.ofValue, invoke, Result.andThen]
    rw [e4, e3])
end Go.Proofs.Ytdbadicpbmndbaa.Lg
/- Walks: a map's clone; binds by which a term is another one, too. -/
set_option linter.unusedVariables false
set_option linter.unusedSimpArgs false
/- short -/
namespace Go.Proofs.Ytdbadicpbmndbaa
open Go Lg

theorem mapsClone_does {I : Imm} {b : Nat} {xs : Mp} :
    Does Try.prog 146 [.map (some b)] I [.map b xs] (fun v I' δ' => ∃ b', v = .map (some b') ∧ δ' = [.map b' xs, .map b xs]) := by
  refine Does.intro Try.func146 rfl Try.ntmps146 rfl fun w0 => ?_
  refine code_seq ?_
  refine code_region ?_
  refine op_v (v_assign rfl) rfl ?_
  refine ops_nil ?_
  refine post_next ?_
  refine code_seq ?_
  refine code_seq ?_
  refine code_region ?_
  refine op_v (v_move rfl) rfl ?_
  refine op_v (v_mapq Try.underlying87 rfl rfl rfl) rfl ?_
  refine ops_nil ?_
  refine post_next ?_
  refine code_cond_f rfl ?_
  refine code_skip ?_
  refine post_next ?_
  refine code_seq ?_
  refine code_region ?_
  refine op_v (v_move rfl) rfl ?_
  refine op_v (v_ifaceM Try.underlying87 rfl) rfl ?_
  refine o_mapsClone Try.func174 (by kernel_rfl) (by kernel_rfl) (by kernel_rfl) (by kernel_rfl) rfl rfl Has.here (fun b7 => ?_)
  refine op_v (v_assertM Try.underlying87 rfl) rfl ?_
  refine op_v (v_assign rfl) rfl ?_
  refine ops_nil ?_
  refine post_next ?_
  refine code_ret ?_
  refine post_ret (rs := [.tmp 2]) rfl (List.Perm.refl _) (.cons (.tmp rfl) .nil) (List.Sublist.refl _) ?_
  exact ⟨b7, rfl, rfl⟩
abbrev tmRow (A : Option Addr) (n c : Nat) (xs : List Value) : Ent := .row (.slice A n c) 47 2 n xs
theorem with_does {I : Imm} {b : Nat} {xs : Mp} {bs : List Bi} {vp vt : Value} {p t : T} (hM : MB I xs bs) (hsb : SmB bs) (hp : RepT I vp p) (ht : RepT I vt t) (h1 : p.size ≤ 1000000) (h2 : t.size ≤ 1000000) :
    Does Try.prog 110 [.map (some b), vp, vt] I [.map b xs] (fun v I' δ' => (v = .map none ∧ δ' = [.map b xs] ∧ ∀ θ, ¬ (Ext θ bs ∧ pT θ p = t)) ∨ ∃ b' xs' bs', v = .map (some b') ∧ δ' = [.map b' xs', .map b xs] ∧ MB I' xs' bs' ∧ SmB bs' ∧ ∀ θ, Ext θ bs ∧ pT θ p = t ↔ Ext θ bs') := by
  obtain ⟨pa, pc, rfl, _⟩ := hp.shape
  obtain ⟨ta, tc, rfl, _⟩ := ht.shape
  refine Does.intro Try.func110 rfl Try.ntmps110 rfl fun w0 => ?_
  refine code_seq ?_
  refine code_region ?_
  refine o_box rfl rfl rfl (fun b4 => ?_)
  refine o_box rfl rfl rfl (fun b5 => ?_)
  refine op_v (v_assign rfl) rfl ?_
  refine ops_nil ?_
  refine post_next ?_
  refine code_seq ?_
  refine code_region ?_
  refine op_v (v_move rfl) rfl ?_
  refine op_call pl146 rfl rfl ((mapsClone_does)) (Parts.one (Del.there (Del.there Del.here))) ?_
  rintro v17 I17 _ hI17 ⟨b17, rfl, rfl⟩
  refine op_v (v_assign rfl) rfl ?_
  refine ops_nil ?_
  refine post_next ?_
  refine code_seq_meet (fun σ' I' δ' => ∃ b19 b21 : Nat, σ' = [(7, .map (some b17)), (8, .slice (some ⟨b19, 0, none⟩) 1 1), (9, .slice (some ⟨b21, 0, none⟩) 1 1)] ∧ I17 = I' ∧ δ' = [tmRow (some ⟨b19, 0, none⟩) 1 1 [.int .i64 p.head, .slice pa p.args.length pc], tmRow (some ⟨b21, 0, none⟩) 1 1 [.int .i64 t.head, .slice ta t.args.length tc], .map b17 xs, .map b xs]) ?_ ?_
  · refine code_draw (.fl 0 (.fl 2 (.two 1 3 (.fl 4 (.ef 3 (.ef 5 .done))) (.ef 1 (.ef 4 (.ef 5 .done)))))) (fun _ => [.map b17 xs, .map b xs, .box b5 47 [.int .i64 t.head, .slice ta t.args.length tc], .box b4 47 [.int .i64 p.head, .slice pa p.args.length pc]]) mixed (by kernel_rfl) (by kernel_rfl) (fun _ => (List.Sublist.refl _)) ?_
    refine e_float rfl rfl (fun hs_ => PF.mk rfl (v_loadA ty47 rfl rfl) hs_) Imm.leA (by intro x hx; simp only [List.mem_cons, List.not_mem_nil, or_false] at hx; rcases hx with rfl | rfl | rfl | rfl <;> simp [cellsL]) ?_
    refine e_float rfl rfl (fun hs_ => PF.mk rfl (v_loadA ty47 rfl rfl) hs_) Imm.leA (by intro x hx; simp only [List.mem_cons, List.not_mem_nil, or_false] at hx; rcases hx with rfl | rfl | rfl | rfl <;> simp [cellsL]) ?_
    refine e_two rfl (by intro cs b hc; cases hc) (by intro c hc; cases hc) rfl (by intro cs b hc; cases hc) (by intro c hc; cases hc) ?_ ?_
    · refine o_buildSlice (xs := [(Go.Operand.tmp 18)]) Try.underlying45 bs47 rfl rfl rfl rfl rfl (fun b19 => ?_)
      refine ops_nil ?_
      refine e_next rfl (side_all Imm.leA (fun _ => (by intro x hx; simp only [List.mem_cons, List.not_mem_nil, or_false] at hx; rcases hx with rfl | rfl | rfl | rfl <;> simp [cellsL]))) ?_
      refine e_float rfl rfl (fun hs_ => PF.mk rfl (v_assign rfl) hs_) Imm.leA (by intro x hx; simp only [List.mem_cons, List.not_mem_nil, or_false] at hx; rcases hx with rfl | rfl | rfl | rfl <;> simp [cellsL]) ?_
      refine e_eff rfl (by intro cs b hc; cases hc) (by intro c hc; cases hc) ?_
      refine o_buildSlice (xs := [(Go.Operand.tmp 20)]) Try.underlying45 bs47 rfl rfl rfl rfl rfl (fun b21 => ?_)
      refine ops_nil ?_
      refine e_next rfl (side_all Imm.leA (fun _ => (by intro x hx; simp only [List.mem_cons, List.not_mem_nil, or_false] at hx; rcases hx with rfl | rfl | rfl | rfl <;> simp [cellsL]))) ?_
      refine e_eff rfl (by intro cs b hc; cases hc) (by intro c hc; cases hc) ?_
      refine op_v (v_assign rfl) rfl ?_
      refine ops_nil ?_
      refine e_next rfl (side_nil (by kernel_rfl)) ?_
      refine e_done ?_
      refine PostJ.view ((View.perm (List.Perm.swap _ _ _)).trans (View.sub (List.Sublist.cons_cons _ (List.Sublist.cons_cons _ (List.Sublist.cons_cons _ (List.Sublist.cons_cons _ (List.nil_sublist _))))))) ?_
      exact post_meet _ ⟨b19, b21, rfl, rfl, rfl⟩ ⟨rfl, rfl, rfl, trivial⟩
    · refine o_buildSlice (xs := [(Go.Operand.tmp 20)]) Try.underlying45 bs47 rfl rfl rfl rfl rfl (fun b21 => ?_)
      refine ops_nil ?_
      refine e_next rfl (side_all Imm.leA (fun _ => (by intro x hx; simp only [List.mem_cons, List.not_mem_nil, or_false] at hx; rcases hx with rfl | rfl | rfl | rfl <;> simp [cellsL]))) ?_
      refine e_eff rfl (by intro cs b hc; cases hc) (by intro c hc; cases hc) ?_
      refine o_buildSlice (xs := [(Go.Operand.tmp 18)]) Try.underlying45 bs47 rfl rfl rfl rfl rfl (fun b19 => ?_)
      refine ops_nil ?_
      refine e_next rfl (side_nil (by kernel_rfl)) ?_
      refine e_eff rfl (by intro cs b hc; cases hc) (by intro c hc; cases hc) ?_
      refine op_v (v_assign rfl) rfl ?_
      refine ops_nil ?_
      refine e_next rfl (side_nil (by kernel_rfl)) ?_
      refine e_eff rfl (by intro cs b hc; cases hc) (by intro c hc; cases hc) ?_
      refine op_v (v_assign rfl) rfl ?_
      refine ops_nil ?_
      refine e_next rfl (side_nil (by kernel_rfl)) ?_
      refine e_done ?_
      refine PostJ.view (View.sub (List.Sublist.cons_cons _ (List.Sublist.cons_cons _ (List.Sublist.cons_cons _ (List.Sublist.cons_cons _ (List.nil_sublist _)))))) ?_
      exact post_meet _ ⟨b19, b21, rfl, rfl, rfl⟩ ⟨rfl, rfl, rfl, trivial⟩
  · rintro _ _ _ ⟨b19, b21, rfl, rfl, rfl⟩
    refine code_seq ?_
    refine code_block ?_
    refine code_loop (fun m σ' I' δ' => ∃ (ls rs : List T) (la ra : Option Addr) (lc rc : Nat) (us vs : List Value) (ms : Mp) (bs' : List Bi), m = sizeL ls ∧ ls.length = rs.length ∧ σ' = [(7, .map (some b17)), (8, .slice la ls.length lc), (9, .slice ra ls.length rc)] ∧ I17.le I' ∧ δ' = [tmRow la ls.length lc us, tmRow ra ls.length rc vs, .map b17 ms, .map b xs] ∧ RowT I' us ls ∧ RowT I' vs rs ∧ sizeL ls ≤ p.size ∧ sizeL rs ≤ t.size ∧ MB I' ms bs' ∧ SmB bs' ∧ ∀ θ, (Ext θ bs ∧ pT θ p = t) ↔ (Ext θ bs' ∧ StM θ ls rs)) (sizeL [p]) [(7, .map (some b17)), (8, .slice (some ⟨b19, 0, none⟩) 1 1), (9, .slice (some ⟨b21, 0, none⟩) 1 1)] ⟨[p], [t], _, _, _, _, _, _, xs, bs, rfl, rfl, rfl, Imm.le_refl _, rfl, RowT.one (hp.mono hI17), RowT.one (ht.mono hI17), by simp [sizeL], by simp [sizeL], hM.mono hI17, hsb, fun θ => and_congr_right fun _ => by have := StM_snoc (θ := θ) (xs := []) (ys := []) (x := p) (y := t) rfl; simp only [List.nil_append] at this; rw [this]; exact ⟨fun h => ⟨StM_nil θ, h⟩, fun h => h.2⟩⟩ ⟨rfl, rfl, rfl, trivial⟩ ?_
    rintro m _ I0 _ ⟨ls, rs, la, ra, lc, rc, us, vs, ms, bs', rfl, hlr, rfl, hI0, rfl, hrl, hrr, hszp, hszt, hM', hsb', hiff⟩
    refine code_seq ?_
    refine code_seq ?_
    refine code_region ?_
    refine op_v (v_move rfl) rfl ?_
    refine op_v (v_len Try.underlying45 rfl) rfl ?_
    refine op_v (v_cmp rfl rfl rfl) rfl ?_
    refine ops_nil ?_
    refine post_next ?_
    refine code_cond rfl (fun hc0 => ?_) (fun hc0 => ?_)
    · rcases List.eq_nil_or_concat ls with rfl | ⟨ls', x, rfl⟩
      · simp at hc0
      rcases List.eq_nil_or_concat rs with rfl | ⟨rs', y, rfl⟩
      · simp at hlr
      rw [List.concat_eq_append] at *
      rw [List.concat_eq_append] at *
      have hlen : (ls' ++ [x]).length = ls'.length + 1 := by simp
      have hlr' : ls'.length = rs'.length := by simpa using hlr
      rw [hlen]
      obtain ⟨⟨xa, xc⟩, hldx, hrx⟩ := hrl.last
      obtain ⟨⟨ya, yc⟩, hldy, hry⟩ := hrr.last
      rw [← hlr'] at hldy
      have hrl' := hrl.take
      have hrr' := hrr.take
      rw [← hlr'] at hrr'
      dsimp only at hldx hldy hrx hry
      have hszl := sizeL_len ls'
      have hszx := sizeL_len x.args
      have hsx : x.size = 1 + sizeL x.args := by cases x; simp [T.size, T.args]
      have hsy : y.size = 1 + sizeL y.args := by cases y; simp [T.size, T.args]
      have hap := sizeL_app ls' [x]
      have hap2 := sizeL_app ls' x.args
      have hap3 := sizeL_app rs' [y]
      have hap4 := sizeL_app rs' y.args
      simp only [sizeL, Nat.add_zero] at hap hap3
      have hhx := repT_head hrx
      unfold InR at hhx
      refine code_skip ?_
      refine post_next ?_
      refine code_block ?_
      refine code_seq ?_
      refine code_region ?_
      refine OpsJ.rowSome Has.here (by omega) (fun hA hcl => ?_)
      refine OpsJ.rowSome (Has.there Has.here) (by omega) (fun hB hcr => ?_)
      refine op_v (v_move rfl) rfl ?_
      refine op_v (v_len Try.underlying45 rfl) rfl ?_
      refine op_v (v_subb rfl rfl rfl (by omega)) rfl ?_
      rw [show ((ls'.length + 1 : Nat) : Int) - 1 = (ls'.length : Nat) by omega]
      refine op_v (v_assign rfl) rfl ?_
      refine ops_nil ?_
      refine post_next ?_
      refine code_seq_meet (fun σ' I' δ' => ∃ b11 b12 : Nat, σ' = [(7, .map (some b17)), (8, .slice la (ls'.length + 1) lc), (9, .slice ra (ls'.length + 1) rc), (10, .int .i64 (ls'.length : Nat)), (11, .pointer (some ⟨b11, 0, none⟩)), (12, .pointer (some ⟨b12, 0, none⟩))] ∧ I0 = I' ∧ δ' = [.box b11 47 [.int .i64 x.head, .slice xa x.args.length xc], .box b12 47 [.int .i64 y.head, .slice ya y.args.length yc], tmRow la (ls'.length + 1) lc us, tmRow ra (ls'.length + 1) rc vs, .map b17 ms, .map b xs]) ?_ ?_
      · refine code_draw (.fl 0 (.fl 1 (.fl 2 (.fl 3 (.fl 4 (.fl 5 (.fl 6 (.fl 7 (.two 8 9 (.ef 9 (.ef 10 (.ef 11 .done))) (.ef 8 (.ef 10 (.ef 11 .done)))))))))))) (fun _ => _) mixed (by kernel_rfl) (by kernel_rfl) (fun _ => (List.Sublist.refl _)) ?_
        refine e_fl rfl rfl (fun hs_ => PF.mk rfl (v_move rfl) hs_) ?_
        refine e_fl rfl rfl (fun hs_ => PF.mk rfl (v_move rfl) hs_) ?_
        refine e_fl rfl rfl (fun hs_ => PF.mk rfl (v_indexA Try.underlying45 sz47 rfl rfl) hs_) ?_
        refine e_fl rfl rfl (fun hs_ => PF.mk rfl (v_loadRow ty47 rfl Has.here hA hldx) hs_) ?_
        refine e_fl rfl rfl (fun hs_ => PF.mk rfl (v_move rfl) hs_) ?_
        refine e_fl rfl rfl (fun hs_ => PF.mk rfl (v_move rfl) hs_) ?_
        refine e_fl rfl rfl (fun hs_ => PF.mk rfl (v_indexA Try.underlying45 sz47 rfl rfl) hs_) ?_
        refine e_fl rfl rfl (fun hs_ => PF.mk rfl (v_loadRow ty47 rfl (Has.there Has.here) hB hldy) hs_) ?_
        refine e_two rfl (by intro cs b hc; cases hc) (by intro c hc; cases hc) rfl (by intro cs b hc; cases hc) (by intro c hc; cases hc) ?_ ?_
        · refine o_alloc z47 rfl rfl (fun b11 => ?_)
          refine ops_nil ?_
          refine e_next rfl side_allA ?_
          refine e_eff rfl (by intro cs b hc; cases hc) (by intro c hc; cases hc) ?_
          refine o_alloc z47 rfl rfl (fun b12 => ?_)
          refine ops_nil ?_
          refine e_next rfl side_allA ?_
          refine e_eff rfl (by intro cs b hc; cases hc) (by intro c hc; cases hc) ?_
          refine o_store ty47 rfl rfl rfl rfl rfl (by repeat (first | exact Swap.here | apply Swap.there)) rfl ?_
          refine ops_nil ?_
          refine e_next_ side_allA ?_
          refine e_eff rfl (by intro cs b hc; cases hc) (by intro c hc; cases hc) ?_
          refine o_store ty47 rfl rfl rfl rfl rfl (by repeat (first | exact Swap.here | apply Swap.there)) rfl ?_
          refine ops_nil ?_
          refine e_next_ (side_nil (by kernel_rfl)) ?_
          refine e_done ?_
          refine PostJ.view (View.perm (List.Perm.swap _ _ _)) ?_
          exact post_meet _ ⟨b11, b12, rfl, rfl, rfl⟩ ⟨rfl, rfl, rfl, rfl, rfl, rfl, trivial⟩
        · refine o_alloc z47 rfl rfl (fun b12 => ?_)
          refine ops_nil ?_
          refine e_next rfl side_allA ?_
          refine e_eff rfl (by intro cs b hc; cases hc) (by intro c hc; cases hc) ?_
          refine o_alloc z47 rfl rfl (fun b11 => ?_)
          refine ops_nil ?_
          refine e_next rfl side_allA ?_
          refine e_eff rfl (by intro cs b hc; cases hc) (by intro c hc; cases hc) ?_
          refine o_store ty47 rfl rfl rfl rfl rfl (by repeat (first | exact Swap.here | apply Swap.there)) rfl ?_
          refine ops_nil ?_
          refine e_next_ side_allA ?_
          refine e_eff rfl (by intro cs b hc; cases hc) (by intro c hc; cases hc) ?_
          refine o_store ty47 rfl rfl rfl rfl rfl (by repeat (first | exact Swap.here | apply Swap.there)) rfl ?_
          refine ops_nil ?_
          refine e_next_ (side_nil (by kernel_rfl)) ?_
          refine e_done ?_
          exact post_meet _ ⟨b11, b12, rfl, rfl, rfl⟩ ⟨rfl, rfl, rfl, rfl, rfl, rfl, trivial⟩
      · rintro _ _ _ ⟨b11, b12, rfl, rfl, rfl⟩
        refine code_seq ?_
        refine code_draw (.fl 0 (.fl 1 (.fl 2 (.fl 3 (.fl 4 (.fl 5 (.ef 6 (.ef 7 .done)))))))) (fun _ => _) mixed (by kernel_rfl) (by kernel_rfl) (fun _ => (List.Sublist.refl _)) ?_
        refine e_fl rfl rfl (fun hs_ => PF.mk rfl (v_move rfl) hs_) ?_
        refine e_fl rfl rfl (fun hs_ => PF.mk rfl (v_move rfl) hs_) ?_
        refine e_fl rfl rfl (fun hs_ => PF.mk rfl (v_sliceTo Try.underlying45 sz47 rfl rfl (by omega)) hs_) ?_
        refine e_fl rfl rfl (fun hs_ => PF.mk rfl (v_move rfl) hs_) ?_
        refine e_fl rfl rfl (fun hs_ => PF.mk rfl (v_move rfl) hs_) ?_
        refine e_fl rfl rfl (fun hs_ => PF.mk rfl (v_sliceTo Try.underlying45 sz47 rfl rfl (by omega)) hs_) ?_
        refine e_eff rfl (by intro cs b hc; cases hc) (by intro c hc; cases hc) ?_
        refine op_v (v_assign rfl) rfl ?_
        refine ops_nil ?_
        refine e_next rfl side_allA ?_
        refine e_eff rfl (by intro cs b hc; cases hc) (by intro c hc; cases hc) ?_
        refine op_v (v_assign rfl) rfl ?_
        refine ops_nil ?_
        refine e_next rfl (side_nil (by kernel_rfl)) ?_
        refine e_done ?_
        refine post_next ?_
        refine code_seq ?_
        refine code_seq ?_
        refine code_region ?_
        refine OpsJ.view ((View.short _ (Swap.there (Swap.there Swap.here)) (Nat.le_succ _)).trans (View.short _ (Swap.there (Swap.there (Swap.there Swap.here))) (Nat.le_succ _))) ?_
        refine op_v (v_fieldB 0 Try.underlying47 rfl rfl fz3 rfl) rfl ?_
        refine op_v (v_loadA ty3 rfl rfl) rfl ?_
        refine op_v (v_subb (c := -1 - x.head) rfl rfl rfl (by omega)) rfl ?_
        refine op_v (v_assign rfl) rfl ?_
        refine ops_nil ?_
        refine post_next ?_
        refine code_seq ?_
        refine code_region ?_
        refine op_v (v_move rfl) rfl ?_
        by_cases hneg : 0 ≤ -1 - x.head
        · have hxn : x.head < 0 := by omega
          have hst : ∀ θ, (Ext θ bs ∧ pT θ p = t) ↔ ((Ext θ bs' ∧ θ (-1 - x.head) = y) ∧ StM θ ls' rs') := fun θ => by rw [hiff θ, StM_snoc hlr', pT_neg hxn, and_assoc]; exact and_congr_right fun _ => and_comm
          refine op_v (v_cmptA rfl rfl rfl) rfl ?_
          refine ops_nil ?_
          refine post_next ?_
          refine code_cond_t rfl ?_
          refine code_seq ?_
          refine code_seq ?_
          refine code_region ?_
          refine op_v (v_move rfl) rfl ?_
          refine op_v (v_move rfl) rfl ?_
          by_cases hof : (ofB bs' (-1 - x.head)).isSome = true
          · obtain ⟨u, hu⟩ := Option.isSome_iff_exists.1 hof
            obtain ⟨uv, hg, huv⟩ := (hM' (-1 - x.head)).2 u hu
            obtain ⟨ua, uc, rfl, _⟩ := huv.shape
            refine op_v (v_mlook2 (v := .agg #[.int .i64 u.head, .slice ua u.args.length uc]) (g := true) Try.underlying87 Try.underlying3 z47 rfl rfl (by repeat (first | exact Has.here | apply Has.there)) (by rw [hg]; rfl) (by rw [hg]; rfl)) rfl ?_
            refine op_v (v_move rfl) rfl ?_
            refine op_v (v_extract rfl rfl) rfl ?_
            refine op_v (v_extract rfl rfl) rfl ?_
            refine o_alloc z47 rfl rfl (fun b14 => ?_)
            refine o_store ty47 rfl rfl rfl rfl rfl (by repeat (first | exact Swap.here | apply Swap.there)) rfl ?_
            refine op_v (v_assign rfl) rfl ?_
            refine ops_nil ?_
            refine post_next ?_
            refine code_seq ?_
            refine code_region ?_
            refine op_v (v_move rfl) rfl ?_
            refine op_v (v_move rfl) rfl ?_
            refine op_want rfl rfl ?_
            refine op_v (v_loadA ty47 rfl rfl) rfl ?_
            refine op_want rfl rfl ?_
            refine op_v (v_loadA ty47 rfl rfl) rfl ?_
            refine op_want rfl rfl ?_
            refine op_call pl77 rfl rfl ((TSame_does huv hry (hsb'.get hu) (by omega))) Parts.none ?_
            rintro v57 I57 _ hI57 ⟨rfl, rfl⟩
            by_cases huy : u = y
            · rw [decide_eq_true huy]
              have hor : ofB bs' (-1 - x.head) = none ∨ ofB bs' (-1 - x.head) = some y := .inr (huy ▸ hu)
              refine op_want rfl rfl ?_
              refine op_v (v_not rfl) rfl ?_
              refine op_v (v_pickt rfl rfl) rfl ?_
              refine ops_nil ?_
              refine post_next ?_
              refine code_cond_f rfl ?_
              refine code_skip ?_
              refine post_next ?_
              refine code_seq ?_
              refine code_region ?_
              refine op_v (v_move rfl) rfl ?_
              refine op_v (v_move rfl) rfl ?_
              refine op_v (v_loadA ty47 rfl rfl) rfl ?_
              refine o_mapUpdate Try.underlying87 Try.underlying3 rfl rfl rfl rfl (by repeat (first | exact Swap.here | apply Swap.there)) ?_
              refine ops_nil ?_
              refine post_next ?_
              refine code_exit ?_
              refine post_exit_then ?_
              refine post_exit ?_
              refine PostJ.view (View.sub (List.Sublist.cons _ (List.Sublist.cons _ (List.Sublist.cons _ (List.Sublist.refl _))))) ?_
              refine post_again (sizeL ls') [(7, .map (some b17)), (8, .slice la ls'.length lc), (9, .slice ra ls'.length rc)] (by omega) ⟨ls', rs', la, ra, lc, rc, _, _, _, (-1 - x.head, y) :: bs', rfl, hlr', rfl, Imm.leA, rfl, hrl'.mono Imm.leA, hrr'.mono Imm.leA, by omega, by omega, (hM'.put hry).mono Imm.leA, hsb'.cons (by omega), fun θ => by rw [hst θ, Ext_cons hor]⟩ ⟨rfl, rfl, rfl, trivial⟩
            · rw [decide_eq_false huy]
              refine op_want rfl rfl ?_
              refine op_v (v_not rfl) rfl ?_
              refine op_v (v_pickt rfl rfl) rfl ?_
              refine ops_nil ?_
              refine post_next ?_
              refine code_cond_t rfl ?_
              refine code_seq ?_
              refine code_region ?_
              refine op_v (v_assign rfl) rfl ?_
              refine ops_nil ?_
              refine post_next ?_
              refine code_ret ?_
              refine post_ret_then ?_
              refine post_ret_then ?_
              refine post_ret_block ?_
              refine post_ret_then ?_
              refine post_ret_block ?_
              refine post_ret_then ?_
              refine post_ret (rs := [.tmp 6]) rfl (List.Perm.refl _) (.cons (.tmp rfl) .nil) (List.Sublist.cons _ (List.Sublist.cons _ (List.Sublist.cons _ (List.Sublist.cons _ (List.Sublist.cons _ (List.Sublist.cons _ (List.Sublist.refl _))))))) ?_
              exact .inl ⟨rfl, rfl, fun θ hθ => Ext_no hu huy ((hst θ).1 hθ).1⟩
          · have hu : ofB bs' (-1 - x.head) = none := by simpa using hof
            have hg := (hM' (-1 - x.head)).1 hu
            refine op_v (v_mlook2 (v := .agg #[.int .i64 0, .slice none 0 0]) (g := false) Try.underlying87 Try.underlying3 z47 rfl rfl (by repeat (first | exact Has.here | apply Has.there)) (by rw [hg]; rfl) (by rw [hg]; rfl)) rfl ?_
            refine op_v (v_move rfl) rfl ?_
            refine op_v (v_extract rfl rfl) rfl ?_
            refine op_v (v_extract rfl rfl) rfl ?_
            refine o_alloc z47 rfl rfl (fun b14 => ?_)
            refine o_store ty47 rfl rfl rfl rfl rfl (by repeat (first | exact Swap.here | apply Swap.there)) rfl ?_
            refine op_v (v_assign rfl) rfl ?_
            refine ops_nil ?_
            refine post_next ?_
            refine code_seq ?_
            refine code_region ?_
            refine op_v (v_move rfl) rfl ?_
            refine op_v (v_move rfl) rfl ?_
            refine op_skip rfl rfl (by simp [undef]) rfl ?_
            refine op_skip rfl rfl (by simp [undef]) rfl ?_
            refine op_skip rfl rfl (by simp [undef]) rfl ?_
            refine op_skip rfl rfl (by simp [undef]) rfl ?_
            refine op_v (v_pickf rfl rfl) rfl ?_
            refine ops_nil ?_
            refine post_next ?_
            refine code_cond_f rfl ?_
            refine code_skip ?_
            refine post_next ?_
            refine code_seq ?_
            refine code_region ?_
            refine op_v (v_move rfl) rfl ?_
            refine op_v (v_move rfl) rfl ?_
            refine op_v (v_loadA ty47 rfl rfl) rfl ?_
            refine o_mapUpdate Try.underlying87 Try.underlying3 rfl rfl rfl rfl (by repeat (first | exact Swap.here | apply Swap.there)) ?_
            refine ops_nil ?_
            refine post_next ?_
            refine code_exit ?_
            refine post_exit_then ?_
            refine post_exit ?_
            refine PostJ.view (View.sub (List.Sublist.cons _ (List.Sublist.cons _ (List.Sublist.cons _ (List.Sublist.refl _))))) ?_
            refine post_again (sizeL ls') [(7, .map (some b17)), (8, .slice la ls'.length lc), (9, .slice ra ls'.length rc)] (by omega) ⟨ls', rs', la, ra, lc, rc, _, _, _, (-1 - x.head, y) :: bs', rfl, hlr', rfl, Imm.leA, rfl, hrl'.mono Imm.leA, hrr'.mono Imm.leA, by omega, by omega, (hM'.put hry).mono Imm.leA, hsb'.cons (by omega), fun θ => by rw [hst θ, Ext_cons (.inl hu)]⟩ ⟨rfl, rfl, rfl, trivial⟩
        · have hxp : ¬ x.head < 0 := by omega
          refine op_v (v_cmpfA rfl rfl rfl) rfl ?_
          refine ops_nil ?_
          refine post_next ?_
          refine code_cond_f rfl ?_
          refine code_skip ?_
          refine post_next ?_
          refine code_seq ?_
          refine code_seq ?_
          refine code_region ?_
          refine op_v (v_fieldB 0 Try.underlying47 rfl rfl fz3 rfl) rfl ?_
          refine op_v (v_loadA ty3 rfl rfl) rfl ?_
          refine op_v (v_fieldB 0 Try.underlying47 rfl rfl fz3 rfl) rfl ?_
          refine op_v (v_loadA ty3 rfl rfl) rfl ?_
          by_cases hh : x.head ≠ y.head
          · refine op_v (v_cmptA rfl rfl rfl) rfl ?_
            refine op_v (v_move rfl) rfl ?_
            refine op_skip rfl rfl (by simp [undef]) rfl ?_
            refine op_skip rfl rfl (by simp [undef]) rfl ?_
            refine op_skip rfl rfl (by simp [undef]) rfl ?_
            refine op_skip rfl rfl (by simp [undef]) rfl ?_
            refine op_skip rfl rfl (by simp [undef]) rfl ?_
            refine op_skip rfl rfl (by simp [undef]) rfl ?_
            refine op_skip rfl rfl (by simp [undef]) rfl ?_
            refine op_v (v_pickt rfl rfl) rfl ?_
            refine ops_nil ?_
            refine post_next ?_
            refine code_cond_t rfl ?_
            refine code_seq ?_
            refine code_region ?_
            refine op_v (v_assign rfl) rfl ?_
            refine ops_nil ?_
            refine post_next ?_
            refine code_ret ?_
            refine post_ret_then ?_
            refine post_ret_block ?_
            refine post_ret_then ?_
            refine post_ret_block ?_
            refine post_ret_then ?_
            refine post_ret (rs := [.tmp 6]) rfl (List.Perm.refl _) (.cons (.tmp rfl) .nil) (List.Sublist.cons _ (List.Sublist.cons _ (List.Sublist.cons _ (List.Sublist.cons _ (List.Sublist.cons _ (List.Sublist.refl _)))))) ?_
            exact .inl ⟨rfl, rfl, fun θ hθ => hh ((pT_pos_eq hxp).1 (((StM_snoc hlr').1 ((hiff θ).1 hθ).2).2)).1⟩
          · refine op_v (v_cmpfA rfl rfl rfl) rfl ?_
            refine op_v (v_move rfl) rfl ?_
            first
              | (refine op_want rfl rfl ?_
                 refine op_v (v_fieldB 1 Try.underlying47 rfl rfl fz45 rfl) rfl ?_)
              | (refine op_skip rfl rfl (by simp [undef]) rfl ?_)
            refine op_want rfl rfl ?_
            refine op_v (v_loadA ty45 rfl rfl) rfl ?_
            refine op_want rfl rfl ?_
            refine op_v (v_len Try.underlying45 rfl) rfl ?_
            first
              | (refine op_want rfl rfl ?_
                 refine op_v (v_fieldB 1 Try.underlying47 rfl rfl fz45 rfl) rfl ?_)
              | (refine op_skip rfl rfl (by simp [undef]) rfl ?_)
            refine op_want rfl rfl ?_
            refine op_v (v_loadA ty45 rfl rfl) rfl ?_
            refine op_want rfl rfl ?_
            refine op_v (v_len Try.underlying45 rfl) rfl ?_
            by_cases hn : x.args.length ≠ y.args.length
            · first
                | (refine op_want rfl rfl ?_
                   refine op_v (v_cmptA rfl rfl rfl) rfl ?_)
                | (refine op_skip rfl rfl (by simp [undef]) rfl ?_)
              refine op_v (v_pickf rfl rfl) rfl ?_
              refine ops_nil ?_
              refine post_next ?_
              refine code_cond_t rfl ?_
              refine code_seq ?_
              refine code_region ?_
              refine op_v (v_assign rfl) rfl ?_
              refine ops_nil ?_
              refine post_next ?_
              refine code_ret ?_
              refine post_ret_then ?_
              refine post_ret_block ?_
              refine post_ret_then ?_
              refine post_ret_block ?_
              refine post_ret_then ?_
              refine post_ret (rs := [.tmp 6]) rfl (List.Perm.refl _) (.cons (.tmp rfl) .nil) (List.Sublist.cons _ (List.Sublist.cons _ (List.Sublist.cons _ (List.Sublist.cons _ (List.Sublist.cons _ (List.Sublist.refl _)))))) ?_
              exact .inl ⟨rfl, rfl, fun θ hθ => hn ((pT_pos_eq hxp).1 (((StM_snoc hlr').1 ((hiff θ).1 hθ).2).2)).2.1⟩
            · first
                | (refine op_want rfl rfl ?_
                   refine op_v (v_cmpfA rfl rfl rfl) rfl ?_)
                | (refine op_skip rfl rfl (by simp [undef]) rfl ?_)
              refine op_v (v_pickf rfl rfl) rfl ?_
              refine ops_nil ?_
              refine post_next ?_
              refine code_cond_f rfl ?_
              refine code_skip ?_
              refine post_next ?_
              refine code_draw (.fl 0 (.fl 1 (.fl 2 (.fl 4 (.fl 5 (.fl 6 (.ef 3 (.ef 7 (.ef 8 (.ef 9 .done)))))))))) (fun _ => [.box b11 47 [.int .i64 x.head, .slice xa x.args.length xc], .box b12 47 [.int .i64 y.head, .slice ya y.args.length yc]]) mixed (by kernel_rfl) (by kernel_rfl) (fun _ => (List.Sublist.cons_cons _ (List.Sublist.cons_cons _ (List.nil_sublist _)))) ?_
              obtain ⟨_, _, _, _, hubx, ssx, huax, husubx⟩ := hrx.open
              obtain ⟨_, _, _, _, huby, ssy, huay, husuby⟩ := hry.open
              obtain ⟨hcx, hrowx⟩ := RowT.of huax husubx
              obtain ⟨hcy, hrowy⟩ := RowT.of huay husuby
              have hh' : x.head = y.head := Classical.not_not.1 hh
              have hn' : x.args.length = y.args.length := Classical.not_not.1 hn
              have hst2 : ∀ θ, (Ext θ bs ∧ pT θ p = t) ↔ (Ext θ bs' ∧ StM θ (ls' ++ x.args) (rs' ++ y.args)) := fun θ => by rw [hiff θ, StM_snoc hlr', StM_app hlr' hn', pT_pos_st hxp hh' hn']
              refine e_fl rfl rfl (fun hs_ => PF.mk rfl (v_move rfl) hs_) ?_
              refine e_fl rfl rfl (fun hs_ => PF.mk rfl (v_fieldB 1 Try.underlying47 rfl rfl fz45 rfl) hs_) ?_
              refine e_fl rfl rfl (fun hs_ => PF.mk rfl (v_loadA ty45 rfl rfl) hs_) ?_
              refine e_fl rfl rfl (fun hs_ => PF.mk rfl (v_move rfl) hs_) ?_
              refine e_fl rfl rfl (fun hs_ => PF.mk rfl (v_fieldB 1 Try.underlying47 rfl rfl fz45 rfl) hs_) ?_
              refine e_fl rfl rfl (fun hs_ => PF.mk rfl (v_loadA ty45 rfl rfl) hs_) ?_
              refine e_eff rfl (by intro cs b hc; cases hc) (by intro c hc; cases hc) ?_
              refine o_append Try.underlying45 bs47 rfl rfl rfl (fun v' => by repeat (first | exact Swap.here | apply Swap.there)) (Src.ofI hcx) (rowsT_length _ _) (rowsT_one _ _) (by omega) (by omega) (fun a80 c80 => ?_)
              refine ops_nil ?_
              refine e_next rfl side_allA ?_
              refine e_eff rfl (by intro cs b hc; cases hc) (by intro c hc; cases hc) ?_
              refine o_append Try.underlying45 bs47 rfl rfl rfl (fun v' => by repeat (first | exact Swap.here | apply Swap.there)) (Src.ofI hcy) (rowsT_length _ _) (rowsT_one _ _) (by omega) (by omega) (fun a84 c84 => ?_)
              refine ops_nil ?_
              refine e_next rfl side_allA ?_
              refine e_eff rfl (by intro cs b hc; cases hc) (by intro c hc; cases hc) ?_
              refine op_v (v_assign rfl) rfl ?_
              refine ops_nil ?_
              refine e_next rfl side_allA ?_
              refine e_eff rfl (by intro cs b hc; cases hc) (by intro c hc; cases hc) ?_
              refine op_v (v_assign rfl) rfl ?_
              refine ops_nil ?_
              refine e_next rfl (side_nil (by kernel_rfl)) ?_
              refine e_done ?_
              refine post_out ?_
              refine PostJ.view ((View.drop Del.here).trans (View.drop Del.here)) ?_
              rw [← hn']
              have hl1 : ls'.length + x.args.length = (ls' ++ x.args).length := by simp
              rw [hl1]
              refine post_again (sizeL (ls' ++ x.args)) [(7, .map (some b17)), (8, .slice a80 (ls' ++ x.args).length c80), (9, .slice a84 (ls' ++ x.args).length c84)] (by omega) ⟨ls' ++ x.args, rs' ++ y.args, a80, a84, c80, c84, _, _, ms, bs', rfl, by simp; omega, rfl, hI0, rfl, hrl'.app hrowx, hrr'.app hrowy, by omega, by omega, hM', hsb', hst2⟩ ⟨rfl, rfl, rfl, trivial⟩
    · have hls : ls = [] := by simpa using hc0
      subst hls
      have hrs : rs = [] := List.eq_nil_of_length_eq_zero (by simpa using hlr.symm)
      subst hrs
      refine code_exit ?_
      refine post_exit_then ?_
      refine post_exit_then ?_
      refine post_exit ?_
      refine post_next ?_
      refine code_seq ?_
      refine code_region ?_
      refine op_v (v_move rfl) rfl ?_
      refine op_v (v_assign rfl) rfl ?_
      refine ops_nil ?_
      refine post_next ?_
      refine code_ret ?_
      refine post_ret (rs := [.tmp 6]) rfl (List.Perm.refl _) (.cons (.tmp rfl) .nil) (List.Sublist.cons _ (List.Sublist.cons _ (List.Sublist.refl _))) ?_
      exact .inr ⟨b17, ms, bs', rfl, rfl, hM', hsb', fun θ => (hiff θ).trans ⟨fun h => h.1, fun h => ⟨h, StM_nil θ⟩⟩⟩
end Go.Proofs.Ytdbadicpbmndbaa
