/- How a signature lies in memory, and when two symbols are the same. Plain definitions; no condition. -/
import Derived.Test.YtdcklngleglbbaaRep
import Derived.Test.YtdcklngleglbbaaLgg
import Derived.Test.YtdcklngleglbbaaTy
set_option linter.unusedVariables false
set_option linter.unusedSimpArgs false
namespace Go.Proofs.Ytdcklngleglbbaa
open Go Lg

structure Sy where
  name : ByteArray
  ar : Int
  wt : Int
  tr : Bool
def Sy.cs (s : Sy) : List Value := [.string s.name, .int .i64 s.ar, .int .i64 s.wt, .bool s.tr]
def Sy.v (s : Sy) : Value := .agg s.cs.toArray
def Sy.ok (s : Sy) : Prop := InR s.ar ∧ InR s.wt ∧ s.name.size ≤ maxLen
def nmEq (a b : ByteArray) : Bool := a.toList == b.toList
theorem nmEq_iff {a b : ByteArray} : nmEq a b = true ↔ a.toList = b.toList := by simp [nmEq]
theorem nmEq_self (a : ByteArray) : nmEq a a = true := by simp [nmEq]
theorem nmEq_comm (a b : ByteArray) : nmEq a b = nmEq b a := by
  cases h : nmEq a b
  · cases k : nmEq b a
    · rfl
    · rw [nmEq_iff] at k; rw [← h, nmEq_iff.2 k.symm]
  · rw [nmEq_iff] at h; rw [nmEq_iff.2 h.symm]

/-- a signature that is only read -/
inductive RepG (I : Imm) : Value → List Sy → Prop
  | mk (ad : Option Addr) (c : Nat) (gs : List Sy) (hc : gs.length ≤ c) (hb : gs.length ≤ 4398046511104) (hat : ∀ i (h : i < gs.length), At I ad (i * 4) gs[i].cs) (hr : ∀ s ∈ gs, s.ok) : RepG I (.slice ad gs.length c) gs
theorem RepG.mono {I J : Imm} {v : Value} {gs : List Sy} (h : RepG I v gs) (hl : I.le J) : RepG J v gs := by
  obtain ⟨ad, c, gs, hc, hb, hat, hr⟩ := h
  exact ⟨ad, c, gs, hc, hb, fun i hi => (hat i hi).mono hl, hr⟩
theorem RepG.shape {I : Imm} {v : Value} {gs : List Sy} (h : RepG I v gs) : ∃ ad c, v = .slice ad gs.length c := by
  obtain ⟨ad, c, gs, _, _, _, _⟩ := h; exact ⟨ad, c, rfl⟩
theorem RepG.open {I : Imm} {ad : Option Addr} {n c : Nat} {gs : List Sy} (h : RepG I (.slice ad n c) gs) : n = gs.length ∧ gs.length ≤ c ∧ gs.length ≤ 4398046511104 ∧ (∀ i (h : i < gs.length), At I ad (i * 4) gs[i].cs) ∧ ∀ s ∈ gs, s.ok := by
  generalize e : Value.slice ad n c = v at h
  obtain ⟨ad', c', gs, hc, hb, hat, hr⟩ := h
  cases e
  exact ⟨rfl, hc, hb, hat, hr⟩
theorem RepG.take {I : Imm} {ad : Option Addr} {c : Nat} {gs : List Sy} (h : RepG I (.slice ad gs.length c) gs) {k : Nat} (hk : k ≤ gs.length) : RepG I (.slice ad k c) (gs.take k) := by
  obtain ⟨_, hc, hb, hat, hr⟩ := h.open
  have e : (gs.take k).length = k := by rw [List.length_take]; omega
  have := RepG.mk (I := I) ad c (gs.take k) (by omega) (by omega) (fun i hi => by
    have : (gs.take k)[i] = gs[i]'(by omega) := List.getElem_take
    rw [this]; exact hat i (by omega)) (fun s hs => hr s (List.mem_of_mem_take hs))
  rwa [e] at this
/-- out of a row of one's own -/
theorem RepG.of {I : Imm} {ad : Option Addr} {n c : Nat} {gs : List Sy} {xs : List Value} (hat : Cells I ad xs) (hx : xs = gs.flatMap Sy.cs) (hn : n = gs.length) (hc : n ≤ c) (hb : n ≤ 4398046511104) (hr : ∀ s ∈ gs, s.ok) : RepG I (.slice ad n c) gs := by
  subst hn; subst hx
  refine ⟨ad, c, gs, hc, hb, fun i hi => hat.at _ fun j v hj => ?_, hr⟩
  clear hat hc hb hr
  induction gs generalizing i with
  | nil => simp at hi
  | cons s r ih =>
    have hs : s.cs.length = 4 := rfl
    cases i with
    | zero =>
      simp only [List.getElem_cons_zero] at hj
      have hlt := (List.getElem?_eq_some_iff.1 hj).1
      rw [List.flatMap_cons, List.getElem?_append_left (by omega)]
      simpa using hj
    | succ i =>
      simp only [List.getElem_cons_succ] at hj
      have := ih i (by simpa using hi) hj
      rw [List.flatMap_cons, List.getElem?_append_right (by omega), hs, ← this]
      congr 1; omega

/-! ### equality -/
def syEq (a b : Sy) : Bool := (a.name == b.name) && (a.ar == b.ar && (a.wt == b.wt && a.tr == b.tr))
structure SyTy (P : Program) (t ts ti tb : TypeId) : Prop where
  str : ∃ f0 f1 f2 f3 : Field, P.underlying t = some (.struct #[f0, f1, f2, f3]) ∧ (f0.type = ts ∧ f0.offset = 0 ∧ f0.name ≠ "_") ∧ (f1.type = ti ∧ f1.offset = 1 ∧ f1.name ≠ "_") ∧ (f2.type = ti ∧ f2.offset = 2 ∧ f2.name ≠ "_") ∧ (f3.type = tb ∧ f3.offset = 3 ∧ f3.name ≠ "_")
  us : P.underlying ts = some .string
  ui : P.underlying ti = some (.int .i64)
  ub : P.underlying tb = some .bool
  held : P.stoodInHeld t = false
  guard : P.eqGuardType P.depth t = false
theorem run_part {P : Program} {t : TypeId} {u : TypeDesc} (hu : P.underlying t = some u) (hn : (match u with | .struct _ | .array _ _ => true | _ => false) = false) {cs : Array Value} {i : Nat} {v : Value} (hv : cs[i]? = some v) (w : World) : (part t cs i).run P w = .ok v w := by
  have h1 : (underlying t).run P w = .ok u w := by simp [underlying, program, Sem.run, hu]
  have hia : (isAgg t).run P w = .ok false w := by
    simp only [isAgg, Sem.run_bind, h1, Result.andThen]
    cases u <;> simp at hn <;> rfl
  simp [part, hia, hv]
theorem run_eqSy {P : Program} {t ts ti tb : TypeId} (ty : SyTy P t ts ti tb) (a b : Sy) (w : World) : (Op.equal t a.v b.v).run P w = .ok (syEq a b) w := by
  obtain ⟨f0, f1, f2, f3, hs, ⟨e1, e2, e3⟩, ⟨g1, g2, g3⟩, ⟨h1, h2, h3⟩, k1, k2, k3⟩ := ty.str
  have hu : (underlying t).run P w = .ok (.struct #[f0, f1, f2, f3]) w := by simp [underlying, program, Sem.run, hs]
  have hus : (underlying ts).run P w = .ok .string w := by simp [underlying, program, Sem.run, ty.us]
  have hui : (underlying ti).run P w = .ok (.int .i64) w := by simp [underlying, program, Sem.run, ty.ui]
  have hub : (underlying tb).run P w = .ok .bool w := by simp [underlying, program, Sem.run, ty.ub]
  have q1 : ∀ x y : ByteArray, (Op.equalIn 9999 ts (.string x) (.string y)).run P w = .ok (x == y) w := fun x y => by
    show (Op.equalIn (9998 + 1) ts (.string x) (.string y)).run P w = _
    rw [Op.equalIn]; simp only [Sem.run_bind, hus, Result.andThen]; rfl
  have q2 : ∀ x y : Int, (Op.equalIn 9999 ti (.int .i64 x) (.int .i64 y)).run P w = .ok (x == y) w := fun x y => by
    show (Op.equalIn (9998 + 1) ti (.int .i64 x) (.int .i64 y)).run P w = _
    rw [Op.equalIn]; simp only [Sem.run_bind, hui, Result.andThen]; rfl
  have q3 : ∀ x y : Bool, (Op.equalIn 9999 tb (.bool x) (.bool y)).run P w = .ok (x == y) w := fun x y => by
    show (Op.equalIn (9998 + 1) tb (.bool x) (.bool y)).run P w = _
    rw [Op.equalIn]; simp only [Sem.run_bind, hub, Result.andThen]; rfl
  have p1 : ∀ s : Sy, (part ts s.cs.toArray 0).run P w = .ok (.string s.name) w := fun s => run_part ty.us rfl rfl w
  have p2 : ∀ s : Sy, (part ti s.cs.toArray 1).run P w = .ok (.int .i64 s.ar) w := fun s => run_part ty.ui rfl rfl w
  have p3 : ∀ s : Sy, (part ti s.cs.toArray 2).run P w = .ok (.int .i64 s.wt) w := fun s => run_part ty.ui rfl rfl w
  have p4 : ∀ s : Sy, (part tb s.cs.toArray 3).run P w = .ok (.bool s.tr) w := fun s => run_part ty.ub rfl rfl w
  have hheld := ty.held
  show (Op.equalIn (9999 + 1) t (.agg a.cs.toArray) (.agg b.cs.toArray)).run P w = _
  rw [Op.equalIn]
  simp only [Sem.run_bind, hu, Result.andThen, program, Sem.run, hheld, Bool.false_eq_true, if_false]
  unfold syEq
  cases c1 : (a.name == b.name) <;> cases c2 : (a.ar == b.ar) <;> cases c3 : (a.wt == b.wt) <;> cases c4 : (a.tr == b.tr) <;>
    simp [Sem.run_bind, Result.andThen, e1, e2, e3, g1, g2, g3, h1, h2, h3, k1, k2, k3, p1, p2, p3, p4, q1, q2, q3, c1, c2, c3, c4, List.forIn_cons, List.forIn_nil]

variable {C : Ctx} {σ : Env} {ds : List Nat} {I : Imm} {δ : List Ent}
def cmpG : BinOp → Sy → Sy → Option Bool
  | .eql, a, b => some (syEq a b)
  | .neq, a, b => some (!(syEq a b))
  | _, _, _ => none
theorem Lg.v_eqSy {op : BinOp} {t t' ts ti tb : TypeId} {x y : Operand} {a b : Sy} {z : Bool} (ty : SyTy C.P t ts ti tb) (hx : evS σ x = some a.v) (hy : evS σ y = some b.v) (hz : cmpG op a b = some z) : ValJ C σ ds I δ (.binOp op t x y t') (.bool z) := by
  have hg : ∀ w, (eqGuard op t x y a.v b.v).run C.P w = .ok () w := fun w => by
    have hq := ty.guard
    cases op <;> simp [cmpG] at hz <;> simp [eqGuard, Sy.v, program, Sem.run, hq]
  have he : ∀ w, (Op.equal t a.v b.v).run C.P w = .ok (syEq a b) w := run_eqSy ty a b
  refine v_bin hx hy hg (fun w => ?_)
  have h2 : ∀ f : Bool → Bool, (do pure (Value.bool (f (← Op.equal t a.v b.v))) : Sem Value).run C.P w = .ok (.bool (f (syEq a b))) w := fun f => by simp only [Sem.run_bind, he, Result.andThen]; rfl
  cases op <;> simp only [cmpG, Option.some.injEq, reduceCtorEq] at hz
  · subst hz; exact h2 id
  · subst hz; exact h2 not
theorem syTy : SyTy Try.prog 49 9 3 4 :=
  ⟨⟨_, _, _, _, Try.underlying49, ⟨rfl, rfl, by decide⟩, ⟨rfl, rfl, by decide⟩, ⟨rfl, rfl, by decide⟩, rfl, rfl, by decide⟩, Try.underlying9, Try.underlying3, Try.underlying4, by kernel_rfl, by kernel_rfl⟩
end Go.Proofs.Ytdcklngleglbbaa
