/- Own texts, one behind the other: rules of a small program logic, walks through the program's functions, plain facts. No condition. -/
import Derived.Test.YtdbadicpbmndbaaGreatZ1
/- How a signature lies in memory, and when two symbols are the same. Plain definitions; no condition. -/
set_option linter.unusedVariables false
set_option linter.unusedSimpArgs false
namespace Go.Proofs.YtdbadicpbmndbaaGreat
open Go Lg

structure Sy where
  name : ByteArray
  ar : Int
  wt : Int
  tr : Bool
def Sy.cs (s : Sy) : List Value := [.string s.name, .int .i64 s.ar, .int .i64 s.wt, .bool s.tr]
def Sy.v (s : Sy) : Value := .agg s.cs.toArray
def Sy.ok (s : Sy) : Prop := InR s.ar ∧ InR s.wt ∧ s.name.size ≤ maxLen
def nmEq (a b : ByteArray) : Bool := a.toList == b.toList
theorem nmEq_iff {a b : ByteArray} : nmEq a b = true ↔ a.toList = b.toList := by simp [nmEq]
/-- a signature that is only read -/
inductive RepG (I : Imm) : Value → List Sy → Prop
  | mk (ad : Option Addr) (c : Nat) (gs : List Sy) (hc : gs.length ≤ c) (hb : gs.length ≤ 4398046511104) (hat : ∀ i (h : i < gs.length), At I ad (i * 4) gs[i].cs) (hr : ∀ s ∈ gs, s.ok) : RepG I (.slice ad gs.length c) gs
theorem RepG.mono {I J : Imm} {v : Value} {gs : List Sy} (h : RepG I v gs) (hl : I.le J) : RepG J v gs := by
  obtain ⟨ad, c, gs, hc, hb, hat, hr⟩ := h
  exact ⟨ad, c, gs, hc, hb, fun i hi => (hat i hi).mono hl, hr⟩
theorem RepG.shape {I : Imm} {v : Value} {gs : List Sy} (h : RepG I v gs) : ∃ ad c, v = .slice ad gs.length c := by
  obtain ⟨ad, c, gs, _, _, _, _⟩ := h; exact ⟨ad, c, rfl⟩
theorem RepG.open {I : Imm} {ad : Option Addr} {n c : Nat} {gs : List Sy} (h : RepG I (.slice ad n c) gs) : n = gs.length ∧ gs.length ≤ c ∧ gs.length ≤ 4398046511104 ∧ (∀ i (h : i < gs.length), At I ad (i * 4) gs[i].cs) ∧ ∀ s ∈ gs, s.ok := by
  generalize e : Value.slice ad n c = v at h
  obtain ⟨ad', c', gs, hc, hb, hat, hr⟩ := h
  cases e
  exact ⟨rfl, hc, hb, hat, hr⟩
theorem RepG.take {I : Imm} {ad : Option Addr} {c : Nat} {gs : List Sy} (h : RepG I (.slice ad gs.length c) gs) {k : Nat} (hk : k ≤ gs.length) : RepG I (.slice ad k c) (gs.take k) := by
  obtain ⟨_, hc, hb, hat, hr⟩ := h.open
  have e : (gs.take k).length = k := by rw [List.length_take]; omega
  have := RepG.mk (I := I) ad c (gs.take k) (by omega) (by omega) (fun i hi => by
    have : (gs.take k)[i] = gs[i]'(by omega) := List.getElem_take
    rw [this]; exact hat i (by omega)) (fun s hs => hr s (List.mem_of_mem_take hs))
  rwa [e] at this
/-- out of a row of one's own -/
theorem RepG.of {I : Imm} {ad : Option Addr} {n c : Nat} {gs : List Sy} {xs : List Value} (hat : Cells I ad xs) (hx : xs = gs.flatMap Sy.cs) (hn : n = gs.length) (hc : n ≤ c) (hb : n ≤ 4398046511104) (hr : ∀ s ∈ gs, s.ok) : RepG I (.slice ad n c) gs := by
  subst hn; subst hx
  refine ⟨ad, c, gs, hc, hb, fun i hi => hat.at _ fun j v hj => ?_, hr⟩
  clear hat hc hb hr
  induction gs generalizing i with
  | nil => simp at hi
  | cons s r ih =>
    have hs : s.cs.length = 4 := rfl
    cases i with
    | zero =>
      simp only [List.getElem_cons_zero] at hj
      have hlt := (List.getElem?_eq_some_iff.1 hj).1
      rw [List.flatMap_cons, List.getElem?_append_left (by omega)]
      simpa using hj
    | succ i =>
      simp only [List.getElem_cons_succ] at hj
      have := ih i (by simpa using hi) hj
      rw [List.flatMap_cons, List.getElem?_append_right (by omega), hs, ← this]
      congr 1; omega

/-! ### equality -/
def syEq (a b : Sy) : Bool := (a.name == b.name) && (a.ar == b.ar && (a.wt == b.wt && a.tr == b.tr))
structure SyTy (P : Program) (t ts ti tb : TypeId) : Prop where
  str : ∃ f0 f1 f2 f3 : Field, P.underlying t = some (.struct #[f0, f1, f2, f3]) ∧ (f0.type = ts ∧ f0.offset = 0 ∧ f0.name ≠ "_") ∧ (f1.type = ti ∧ f1.offset = 1 ∧ f1.name ≠ "_") ∧ (f2.type = ti ∧ f2.offset = 2 ∧ f2.name ≠ "_") ∧ (f3.type = tb ∧ f3.offset = 3 ∧ f3.name ≠ "_")
  us : P.underlying ts = some .string
  ui : P.underlying ti = some (.int .i64)
  ub : P.underlying tb = some .bool
  held : P.stoodInHeld t = false
  guard : P.eqGuardType P.depth t = false
theorem run_part {P : Program} {t : TypeId} {u : TypeDesc} (hu : P.underlying t = some u) (hn : (match u with | .struct _ | .array _ _ => true | _ => false) = false) {cs : Array Value} {i : Nat} {v : Value} (hv : cs[i]? = some v) (w : World) : (part t cs i).run P w = .ok v w := by
  have h1 : (underlying t).run P w = .ok u w := by simp [underlying, program, Sem.run, hu]
  have hia : (isAgg t).run P w = .ok false w := by
    simp only [isAgg, Sem.run_bind, h1, Result.andThen]
    cases u <;> simp at hn <;> rfl
  simp [part, hia, hv]
theorem run_eqSy {P : Program} {t ts ti tb : TypeId} (ty : SyTy P t ts ti tb) (a b : Sy) (w : World) : (Op.equal t a.v b.v).run P w = .ok (syEq a b) w := by
  obtain ⟨f0, f1, f2, f3, hs, ⟨e1, e2, e3⟩, ⟨g1, g2, g3⟩, ⟨h1, h2, h3⟩, k1, k2, k3⟩ := ty.str
  have hu : (underlying t).run P w = .ok (.struct #[f0, f1, f2, f3]) w := by simp [underlying, program, Sem.run, hs]
  have hus : (underlying ts).run P w = .ok .string w := by simp [underlying, program, Sem.run, ty.us]
  have hui : (underlying ti).run P w = .ok (.int .i64) w := by simp [underlying, program, Sem.run, ty.ui]
  have hub : (underlying tb).run P w = .ok .bool w := by simp [underlying, program, Sem.run, ty.ub]
  have q1 : ∀ x y : ByteArray, (Op.equalIn 9999 ts (.string x) (.string y)).run P w = .ok (x == y) w := fun x y => by
    show (Op.equalIn (9998 + 1) ts (.string x) (.string y)).run P w = _
    rw [Op.equalIn]; simp only [Sem.run_bind, hus, Result.andThen]; rfl
  have q2 : ∀ x y : Int, (Op.equalIn 9999 ti (.int .i64 x) (.int .i64 y)).run P w = .ok (x == y) w := fun x y => by
    show (Op.equalIn (9998 + 1) ti (.int .i64 x) (.int .i64 y)).run P w = _
    rw [Op.equalIn]; simp only [Sem.run_bind, hui, Result.andThen]; rfl
  have q3 : ∀ x y : Bool, (Op.equalIn 9999 tb (.bool x) (.bool y)).run P w = .ok (x == y) w := fun x y => by
    show (Op.equalIn (9998 + 1) tb (.bool x) (.bool y)).run P w = _
    rw [Op.equalIn]; simp only [Sem.run_bind, hub, Result.andThen]; rfl
  have p1 : ∀ s : Sy, (part ts s.cs.toArray 0).run P w = .ok (.string s.name) w := fun s => run_part ty.us rfl rfl w
  have p2 : ∀ s : Sy, (part ti s.cs.toArray 1).run P w = .ok (.int .i64 s.ar) w := fun s => run_part ty.ui rfl rfl w
  have p3 : ∀ s : Sy, (part ti s.cs.toArray 2).run P w = .ok (.int .i64 s.wt) w := fun s => run_part ty.ui rfl rfl w
  have p4 : ∀ s : Sy, (part tb s.cs.toArray 3).run P w = .ok (.bool s.tr) w := fun s => run_part ty.ub rfl rfl w
  have hheld := ty.held
  show (Op.equalIn (9999 + 1) t (.agg a.cs.toArray) (.agg b.cs.toArray)).run P w = _
  rw [Op.equalIn]
  simp only [Sem.run_bind, hu, Result.andThen, program, Sem.run, hheld, Bool.false_eq_true, if_false]
  unfold syEq
  cases c1 : (a.name == b.name) <;> cases c2 : (a.ar == b.ar) <;> cases c3 : (a.wt == b.wt) <;> cases c4 : (a.tr == b.tr) <;>
    simp [Sem.run_bind, Result.andThen, e1, e2, e3, g1, g2, g3, h1, h2, h3, k1, k2, k3, p1, p2, p3, p4, q1, q2, q3, c1, c2, c3, c4, List.forIn_cons, List.forIn_nil]

variable {C : Ctx} {σ : Env} {ds : List Nat} {I : Imm} {δ : List Ent}
def cmpG : BinOp → Sy → Sy → Option Bool
  | .eql, a, b => some (syEq a b)
  | .neq, a, b => some (!(syEq a b))
  | _, _, _ => none
theorem Lg.v_eqSy {op : BinOp} {t t' ts ti tb : TypeId} {x y : Operand} {a b : Sy} {z : Bool} (ty : SyTy C.P t ts ti tb) (hx : evS σ x = some a.v) (hy : evS σ y = some b.v) (hz : cmpG op a b = some z) : ValJ C σ ds I δ (.binOp op t x y t') (.bool z) := by
  have hg : ∀ w, (eqGuard op t x y a.v b.v).run C.P w = .ok () w := fun w => by
    have hq := ty.guard
    cases op <;> simp [cmpG] at hz <;> simp [eqGuard, Sy.v, program, Sem.run, hq]
  have he : ∀ w, (Op.equal t a.v b.v).run C.P w = .ok (syEq a b) w := run_eqSy ty a b
  refine v_bin hx hy hg (fun w => ?_)
  have h2 : ∀ f : Bool → Bool, (do pure (Value.bool (f (← Op.equal t a.v b.v))) : Sem Value).run C.P w = .ok (.bool (f (syEq a b))) w := fun f => by simp only [Sem.run_bind, he, Result.andThen]; rfl
  cases op <;> simp only [cmpG, Option.some.injEq, reduceCtorEq] at hz
  · subst hz; exact h2 id
  · subst hz; exact h2 not
theorem syTy : SyTy Tryz.prog 85 9 3 4 :=
  ⟨⟨_, _, _, _, Tryz.underlying85, ⟨rfl, rfl, by decide⟩, ⟨rfl, rfl, by decide⟩, ⟨rfl, rfl, by decide⟩, rfl, rfl, by decide⟩, Tryz.underlying9, Tryz.underlying3, Tryz.underlying4, by kernel_rfl, by kernel_rfl⟩
end Go.Proofs.YtdbadicpbmndbaaGreat
/- Plain facts on terms. No condition. -/
set_option linter.unusedVariables false
set_option linter.unusedSimpArgs false
namespace Go.Proofs.YtdbadicpbmndbaaGreat

mutual
def T.size : T → Nat
  | .mk _ ars => 1 + sizeL ars
def sizeL : List T → Nat
  | [] => 0
  | t :: r => t.size + sizeL r
end
theorem T.size_pos (t : T) : 1 ≤ t.size := by cases t; simp [T.size]
theorem sizeL_drop (ars : List T) (k : Nat) (h : k < ars.length) : sizeL (ars.drop k) = ars[k].size + sizeL (ars.drop (k + 1)) := by
  rw [List.drop_eq_getElem_cons h]; simp [sizeL]
theorem sizeL_mem : ∀ (ars : List T) (k : Nat) (h : k < ars.length), ars[k].size ≤ sizeL ars
  | t :: r, 0, _ => by simp [sizeL]
  | t :: r, k + 1, h => by
    have := sizeL_mem r k (by simpa using h)
    simp [sizeL]; omega
theorem sizeL_len : ∀ (ars : List T), ars.length ≤ sizeL ars
  | [] => by simp [sizeL]
  | t :: r => by have := sizeL_len r; have := t.size_pos; simp [sizeL]; omega

def ordI (a b : Int) : Int := if a < b then -1 else if a > b then 1 else 0
mutual
def cmpT : T → T → Int
  | .mk h ars, .mk g bs =>
    if 1 + sizeL ars ≠ 1 + sizeL bs then ordI (1 + sizeL ars : Nat) (1 + sizeL bs : Nat)
    else if h ≠ g then ordI h g
    else if ars.length ≠ bs.length then ordI ars.length bs.length
    else cmpL ars bs
def cmpL : List T → List T → Int
  | a :: ars, b :: bs => if cmpT a b ≠ 0 then cmpT a b else cmpL ars bs
  | _, _ => 0
end
theorem ordI_range (a b : Int) : -1 ≤ ordI a b ∧ ordI a b ≤ 1 := by
  unfold ordI
  split
  · omega
  · split <;> omega
mutual
theorem cmpT_range : ∀ (a b : T), -1 ≤ cmpT a b ∧ cmpT a b ≤ 1
  | .mk h ars, .mk g bs => by
    unfold cmpT
    split
    · exact ordI_range _ _
    · split
      · exact ordI_range _ _
      · split
        · exact ordI_range _ _
        · exact cmpL_range ars bs
theorem cmpL_range : ∀ (a b : List T), -1 ≤ cmpL a b ∧ cmpL a b ≤ 1
  | [], _ => by simp [cmpL]
  | _ :: _, [] => by simp [cmpL]
  | a :: ars, b :: bs => by
    unfold cmpL
    split
    · exact cmpT_range a b
    · exact cmpL_range ars bs
end
theorem ordI_zero {a b : Int} (h : ordI a b = 0) : a = b := by
  unfold ordI at h
  split at h
  · omega
  · split at h <;> omega
mutual
theorem cmpT_zero : ∀ (a b : T), cmpT a b = 0 → a = b
  | .mk h ars, .mk g bs, e => by
    unfold cmpT at e
    split at e
    · have := ordI_zero e; omega
    · split at e
      · exact absurd (ordI_zero e) (by assumption)
      · split at e
        · have := ordI_zero e; omega
        · rename_i h1 h2 h3
          have h2' : h = g := by omega
          have h3' : ars.length = bs.length := by omega
          rw [h2', cmpL_zero ars bs h3' e]
theorem cmpL_zero : ∀ (a b : List T), a.length = b.length → cmpL a b = 0 → a = b
  | [], [], _, _ => rfl
  | [], _ :: _, h, _ => by simp at h
  | _ :: _, [], h, _ => by simp at h
  | a :: ars, b :: bs, h, e => by
    unfold cmpL at e
    split at e
    · rename_i hne; exact absurd e hne
    · rename_i h0
      have h0' : cmpT a b = 0 := by omega
      rw [cmpT_zero a b h0', cmpL_zero ars bs (by simpa using h) e]
end
mutual
theorem cmpT_self : ∀ (a : T), cmpT a a = 0
  | .mk h ars => by simp [cmpT, cmpL_self ars]
theorem cmpL_self : ∀ (a : List T), cmpL a a = 0
  | [] => by simp [cmpL]
  | a :: ars => by simp [cmpL, cmpT_self a, cmpL_self ars]
end
theorem cmpT_eq (a b : T) : cmpT a b = 0 ↔ a = b := ⟨cmpT_zero a b, fun h => by subst h; exact cmpT_self a⟩
theorem cmpL_drop (ars bs : List T) (k : Nat) (h : k < ars.length) (h' : k < bs.length) :
    cmpL (ars.drop k) (bs.drop k) = if cmpT ars[k] bs[k] ≠ 0 then cmpT ars[k] bs[k] else cmpL (ars.drop (k + 1)) (bs.drop (k + 1)) := by
  rw [List.drop_eq_getElem_cons h, List.drop_eq_getElem_cons h', cmpL]
/-- the part at a place -/
def atT : T → List Int → Option T
  | t, [] => some t
  | t, x :: r => if h : 0 ≤ x ∧ x.toNat < t.args.length then atT (t.args[x.toNat]'h.2) r else none
instance : DecidableEq T := fun a b => if h : cmpT a b = 0 then .isTrue ((cmpT_eq a b).1 h) else .isFalse fun e => h ((cmpT_eq a b).2 e)
theorem sizeL_app (a b : List T) : sizeL (a ++ b) = sizeL a + sizeL b := by
  induction a with
  | nil => simp [sizeL]
  | cons x r ih => simp [sizeL, ih]; omega

theorem sizeL_take (l : List T) (k : Nat) (h : k < l.length) : sizeL (l.take (k + 1)) = sizeL (l.take k) + l[k].size := by
  rw [List.take_succ_eq_append_getElem h, sizeL_app]; simp [sizeL]
end Go.Proofs.YtdbadicpbmndbaaGreat
/- Plain facts on the parts of a term, with their depths. No condition. -/
set_option linter.unusedVariables false
set_option linter.unusedSimpArgs false
namespace Go.Proofs.YtdbadicpbmndbaaGreat
open Go Lg

mutual
def partsT : Nat → T → List (Nat × T)
  | d, .mk h ts => (d, .mk h ts) :: partsL (d + 1) ts
def partsL : Nat → List T → List (Nat × T)
  | _, [] => []
  | d, t :: r => partsT d t ++ partsL d r
end
mutual
theorem partsT_length : ∀ (d : Nat) (t : T), (partsT d t).length = t.size
  | d, .mk h ts => by simp [partsT, T.size, partsL_length (d + 1) ts]; omega
theorem partsL_length : ∀ (d : Nat) (ts : List T), (partsL d ts).length = sizeL ts
  | _, [] => rfl
  | d, t :: r => by simp [partsL, sizeL, partsT_length d t, partsL_length d r]
end
mutual
theorem partsT_deep : ∀ (d : Nat) (t : T) (x : Nat × T), x ∈ partsT d t → x.1 + x.2.size ≤ d + t.size
  | d, .mk h ts, x, hx => by
    simp only [partsT, List.mem_cons] at hx
    rcases hx with rfl | hx
    · simp
    · have := partsL_deep (d + 1) ts x hx; simp [T.size]; omega
theorem partsL_deep : ∀ (d : Nat) (ts : List T) (x : Nat × T), x ∈ partsL d ts → x.1 + x.2.size ≤ d + sizeL ts
  | _, [], x, hx => by simp [partsL] at hx
  | d, t :: r, x, hx => by
    simp only [partsL, List.mem_append] at hx
    rcases hx with hx | hx
    · have := partsT_deep d t x hx; simp [sizeL]; omega
    · have := partsL_deep d r x hx; simp [sizeL]; omega
end
/-- what a stack of terms still has to tell -/
def partsS (st : List (Nat × T)) : List (Nat × T) := st.reverse.flatMap fun x => partsT x.1 x.2
theorem partsS_snoc (st : List (Nat × T)) (x : Nat × T) : partsS (st ++ [x]) = partsT x.1 x.2 ++ partsS st := by simp [partsS]
theorem partsS_app (st us : List (Nat × T)) : partsS (st ++ us) = partsS us ++ partsS st := by simp [partsS]
theorem partsL_eq : ∀ (d : Nat) (ts : List T), partsL d ts = (ts.map fun t => (d, t)).flatMap fun x => partsT x.1 x.2
  | _, [] => rfl
  | d, t :: r => by simp [partsL, partsL_eq d r]
/-- the arguments, the last one first -/
def kids (d : Nat) (ts : List T) (l : List Nat) : List (Nat × T) := l.map fun i => (d, ts.getD i zeroT)
theorem map_range_getD (ts : List T) : (List.range ts.length).map (fun i => ts.getD i zeroT) = ts := by
  apply List.ext_getElem
  · simp
  · intro i h1 h2; simp at h1; simp [h1]
theorem partsS_kids (d : Nat) (ts : List T) : partsS (kids d ts (List.range ts.length).reverse) = partsL d ts := by
  rw [partsL_eq, partsS, kids, ← List.map_reverse, List.reverse_reverse]
  congr 1
  have : (fun i => (d, ts.getD i zeroT)) = (fun t => (d, t)) ∘ (fun i => ts.getD i zeroT) := rfl
  rw [this, ← List.map_map, map_range_getD]
theorem partsS_len (st : List (Nat × T)) : st.length ≤ (partsS st).length := by
  have key : ∀ l : List (Nat × T), l.length ≤ (l.flatMap fun x => partsT x.1 x.2).length := fun l => by
    induction l with
    | nil => simp
    | cons x r ih => have := x.2.size_pos; simp [partsT_length] at ih ⊢; omega
  have := key st.reverse
  simpa [partsS] using this
theorem range_rev (n k : Nat) (h : k < n) : (List.range n).reverse = (List.range n).reverse.take k ++ (n - 1 - k) :: (List.range n).reverse.drop (k + 1) := by
  have hl : k < (List.range n).reverse.length := by simpa using h
  have hk : (List.range n).reverse[k] = n - 1 - k := by simp [List.getElem_reverse]
  rw [← hk]
  have h1 := List.take_append_drop k (List.range n).reverse
  rw [List.drop_eq_getElem_cons hl] at h1
  exact h1.symm
theorem range_rev_take (n k : Nat) (h : k < n) : (List.range n).reverse.take (k + 1) = (List.range n).reverse.take k ++ [n - 1 - k] := by
  have hl : k < (List.range n).reverse.length := by simpa using h
  have hk : (List.range n).reverse[k] = n - 1 - k := by simp [List.getElem_reverse]
  rw [List.take_succ_eq_append_getElem hl, hk]

/-- cells of terms with their depths, one behind the other -/
def RowK (I : Imm) (xs : List Value) (st : List (Nat × T)) : Prop :=
  xs.length = st.length * 3 ∧ ∀ i (h : i < st.length), ∃ s : Option Addr × Nat, xs[i * 3]? = some (.int .i64 st[i].2.head) ∧ xs[i * 3 + 1]? = some (.slice s.1 st[i].2.args.length s.2) ∧ xs[i * 3 + 2]? = some (.int .i64 st[i].1) ∧
    RepT I (.agg #[.int .i64 st[i].2.head, .slice s.1 st[i].2.args.length s.2]) st[i].2
theorem RowK.mono {I J : Imm} {xs : List Value} {st : List (Nat × T)} (h : RowK I xs st) (hl : I.le J) : RowK J xs st :=
  ⟨h.1, fun i hi => let ⟨s, h1, h2, h3, h4⟩ := h.2 i hi; ⟨s, h1, h2, h3, h4.mono hl⟩⟩
theorem RowK.one {I : Imm} {d : Nat} {t : T} {a : Option Addr} {c : Nat} (h : RepT I (.agg #[.int .i64 t.head, .slice a t.args.length c]) t) : RowK I [.int .i64 t.head, .slice a t.args.length c, .int .i64 d] [(d, t)] :=
  ⟨rfl, fun i hi => by
    have : i = 0 := by simp at hi; omega
    subst this
    exact ⟨(a, c), rfl, rfl, rfl, h⟩⟩
theorem RowK.app {I : Imm} {xs ys : List Value} {ts us : List (Nat × T)} (h : RowK I xs ts) (k : RowK I ys us) : RowK I (xs ++ ys) (ts ++ us) := by
  refine ⟨by simp [h.1, k.1]; omega, fun i hi => ?_⟩
  by_cases hlt : i < ts.length
  · obtain ⟨s, h1, h2, h3, h4⟩ := h.2 i hlt
    have e : (ts ++ us)[i] = ts[i] := List.getElem_append_left hlt
    rw [e]
    exact ⟨s, by rw [List.getElem?_append_left (by rw [h.1]; omega)]; exact h1, by rw [List.getElem?_append_left (by rw [h.1]; omega)]; exact h2, by rw [List.getElem?_append_left (by rw [h.1]; omega)]; exact h3, h4⟩
  · have hi' : i - ts.length < us.length := by simp at hi; omega
    obtain ⟨s, h1, h2, h3, h4⟩ := k.2 (i - ts.length) hi'
    have e : (ts ++ us)[i] = us[i - ts.length] := List.getElem_append_right (by omega)
    rw [e]
    refine ⟨s, ?_, ?_, ?_, h4⟩
    · rw [List.getElem?_append_right (by rw [h.1]; omega), h.1, ← h1]; congr 1; omega
    · rw [List.getElem?_append_right (by rw [h.1]; omega), h.1, ← h2]; congr 1; omega
    · rw [List.getElem?_append_right (by rw [h.1]; omega), h.1, ← h3]; congr 1; omega
theorem RowK.take {I : Imm} {xs : List Value} {ts : List (Nat × T)} {x : Nat × T} (h : RowK I xs (ts ++ [x])) : RowK I (xs.take (ts.length * 3)) ts := by
  refine ⟨by rw [List.length_take, h.1]; simp only [List.length_append, List.length_cons, List.length_nil]; omega, fun i hi => ?_⟩
  obtain ⟨s, h1, h2, h3, h4⟩ := h.2 i (by simp; omega)
  have e : (ts ++ [x])[i]'(by simp; omega) = ts[i] := List.getElem_append_left hi
  rw [e] at h1 h2 h3 h4
  exact ⟨s, by rw [List.getElem?_take_of_lt (by omega)]; exact h1, by rw [List.getElem?_take_of_lt (by omega)]; exact h2, by rw [List.getElem?_take_of_lt (by omega)]; exact h3, h4⟩
theorem RowK.last {I : Imm} {xs : List Value} {ts : List (Nat × T)} {x : Nat × T} (h : RowK I xs (ts ++ [x])) :
    ∃ s : Option Addr × Nat, ld true 3 (xs.drop (ts.length * 3)) = some (.agg #[.int .i64 x.2.head, .slice s.1 x.2.args.length s.2, .int .i64 x.1]) ∧ RepT I (.agg #[.int .i64 x.2.head, .slice s.1 x.2.args.length s.2]) x.2 := by
  obtain ⟨s, h1, h2, h3, h4⟩ := h.2 ts.length (by simp)
  have e : (ts ++ [x])[ts.length]'(by simp) = x := by simp
  rw [e] at h1 h2 h3 h4
  refine ⟨s, ?_, h4⟩
  obtain ⟨l1, e1⟩ := List.getElem?_eq_some_iff.1 h1
  obtain ⟨l2, e2⟩ := List.getElem?_eq_some_iff.1 h2
  obtain ⟨l3, e3⟩ := List.getElem?_eq_some_iff.1 h3
  rw [List.drop_eq_getElem_cons l1, List.drop_eq_getElem_cons l2, List.drop_eq_getElem_cons l3, e1, e2, e3]
  rfl
end Go.Proofs.YtdbadicpbmndbaaGreat
/- Walks: rows of numbers. -/
set_option linter.unusedVariables false
set_option linter.unusedSimpArgs false
/- short -/
namespace Go.Proofs.YtdbadicpbmndbaaGreat
open Go Lg

theorem Ints_does (I : Imm) {va vb : Value} {xs ys : List Int} (ha : RInts I va xs) (hb : RInts I vb ys) :
    Does Tryz.prog 14 [va, vb] I [] (fun v I' δ' => v = .bool (decide (xs = ys)) ∧ δ' = []) := by
  obtain ⟨ad, c, xs, hc, hn, hca, hra⟩ := ha
  obtain ⟨bd, e, ys, he, hm, hcb, hrb⟩ := hb
  refine Does.intro Tryz.func14 rfl Tryz.ntmps14 rfl fun w0 => ?_
  refine code_seq ?_
  refine code_region ?_
  refine op_v (v_assign rfl) rfl ?_
  refine ops_nil ?_
  refine post_next ?_
  refine code_seq ?_
  refine code_seq ?_
  refine code_region ?_
  refine op_v (v_move rfl) rfl ?_
  refine op_v (v_len Tryz.underlying30 rfl) rfl ?_
  refine op_v (v_move rfl) rfl ?_
  refine op_v (v_len Tryz.underlying30 rfl) rfl ?_
  refine op_v (v_cmp rfl rfl rfl) rfl ?_
  refine ops_nil ?_
  refine post_next ?_
  refine code_cond rfl (fun hc0 => ?_) (fun hc0 => ?_)
  · have hl : xs.length ≠ ys.length := by simp at hc0; omega
    refine code_seq ?_
    refine code_region ?_
    refine op_v (v_assign rfl) rfl ?_
    refine ops_nil ?_
    refine post_next ?_
    refine code_ret ?_
    refine post_ret_then ?_
    refine post_ret (rs := [.tmp 4]) rfl (List.Perm.refl _) (.cons (.tmp rfl) .nil) (List.nil_sublist _) ?_
    exact ⟨bool_f fun e => hl (by rw [e]), rfl⟩
  · have hl : xs.length = ys.length := by simp at hc0; omega
    refine code_skip ?_
    refine post_next ?_
    refine code_seq ?_
    refine code_seq ?_
    refine code_region ?_
    refine op_v (v_assign rfl) rfl ?_
    refine ops_nil ?_
    refine post_next ?_
    refine code_block ?_
    refine code_loop (fun m σ' I' δ' => ∃ k : Nat, k ≤ xs.length ∧ m = xs.length - k ∧ σ' = [(0, .slice ad xs.length c), (1, .slice bd ys.length e), (5, .int .i64 k)] ∧ I' = I ∧ δ' = [] ∧ ∀ j (h : j < k) (h1 : j < xs.length) (h2 : j < ys.length), xs[j] = ys[j]) xs.length [(0, .slice ad xs.length c), (1, .slice bd ys.length e), (5, .int .i64 (0 : Nat))] ⟨0, Nat.zero_le _, rfl, rfl, rfl, rfl, fun j h => by omega⟩ ⟨rfl, rfl, rfl, trivial⟩ ?_
    rintro m _ _ _ ⟨k, hk, rfl, rfl, rfl, rfl, hp⟩
    refine code_seq ?_
    refine code_seq ?_
    refine code_region ?_
    refine op_v (v_move rfl) rfl ?_
    refine op_v (v_move rfl) rfl ?_
    refine op_v (v_len Tryz.underlying30 rfl) rfl ?_
    refine op_v (v_cmp rfl rfl rfl) rfl ?_
    refine ops_nil ?_
    refine post_next ?_
    refine code_cond rfl (fun hc1 => ?_) (fun hc1 => ?_)
    · have hlt : k < xs.length := by simpa using hc1
      have hlt' : k < ys.length := by omega
      have hs1 := ints_some hca k hlt
      have hs2 := ints_some hcb k hlt'
      refine code_skip ?_
      refine post_next ?_
      refine code_seq ?_
      refine code_block ?_
      refine code_seq ?_
      refine code_draw (.fl 0 (.fl 1 (.fl 2 (.fl 3 (.fl 4 (.fl 5 (.fl 6 (.fl 7 (.fl 8 .done))))))))) (fun _ => _) mixed (by kernel_rfl) (by kernel_rfl) (fun _ => (List.Sublist.refl _)) ?_
      refine e_fl rfl rfl (fun hs_ => PF.mk rfl (v_move rfl) hs_) ?_
      refine e_fl rfl rfl (fun hs_ => PF.mk rfl (v_move rfl) hs_) ?_
      refine e_fl rfl rfl (fun hs_ => PF.mk rfl (v_indexA Tryz.underlying30 sz3 rfl rfl) hs_) ?_
      refine e_fl rfl rfl (fun hs_ => PF.mk rfl (v_loadI0 ty3 (ints_at hca k hlt) rfl rfl rfl) hs_) ?_
      refine e_fl rfl rfl (fun hs_ => PF.mk rfl (v_move rfl) hs_) ?_
      refine e_fl rfl rfl (fun hs_ => PF.mk rfl (v_move rfl) hs_) ?_
      refine e_fl rfl rfl (fun hs_ => PF.mk rfl (v_indexA Tryz.underlying30 sz3 rfl rfl) hs_) ?_
      refine e_fl rfl rfl (fun hs_ => PF.mk rfl (v_loadI0 ty3 (ints_at hcb k hlt') rfl rfl rfl) hs_) ?_
      refine e_fl rfl rfl (fun hs_ => PF.mk rfl (v_cmp rfl rfl rfl) hs_) ?_
      refine e_done ?_
      refine post_next ?_
      refine code_cond rfl (fun hc2 => ?_) (fun hc2 => ?_)
      · have hne : xs[k] ≠ ys[k] := by simpa using hc2
        refine code_seq ?_
        refine code_region ?_
        refine op_v (v_assign rfl) rfl ?_
        refine ops_nil ?_
        refine post_next ?_
        refine code_ret ?_
        refine post_ret_block ?_
        refine post_ret_then ?_
        refine post_ret_then ?_
        refine post_ret_block ?_
        refine post_ret_then ?_
        refine post_ret (rs := [.tmp 4]) rfl (List.Perm.refl _) (.cons (.tmp rfl) .nil) (List.nil_sublist _) ?_
        exact ⟨bool_f fun e => hne (by subst e; rfl), rfl⟩
      · have heq : xs[k] = ys[k] := by simpa using hc2
        refine code_skip ?_
        refine post_out ?_
        refine post_next ?_
        refine code_region ?_
        refine op_v (v_move rfl) rfl ?_
        refine op_v (v_addb rfl rfl rfl (by omega)) rfl ?_
        refine op_v (v_assign rfl) rfl ?_
        refine ops_nil ?_
        refine post_again (xs.length - (k + 1)) [(0, .slice ad xs.length c), (1, .slice bd ys.length e), (5, .int .i64 ((k + 1 : Nat) : Int))] (by omega) ⟨k + 1, hlt, rfl, rfl, rfl, rfl, fun j h h1 h2 => ?_⟩ ⟨rfl, rfl, rfl, trivial⟩
        by_cases hj : j = k
        · subst hj; exact heq
        · exact hp j (by omega) h1 h2
    · have hge : ¬ k < xs.length := by simpa using hc1
      refine code_exit ?_
      refine post_exit_then ?_
      refine post_exit_then ?_
      refine post_exit ?_
      refine post_next ?_
      refine code_seq ?_
      refine code_region ?_
      refine op_v (v_assign rfl) rfl ?_
      refine ops_nil ?_
      refine post_next ?_
      refine code_ret ?_
      refine post_ret (rs := [.tmp 4]) rfl (List.Perm.refl _) (.cons (.tmp rfl) .nil) (List.nil_sublist _) ?_
      exact ⟨bool_t (List.ext_getElem hl fun j h1 h2 => hp j (by omega) h1 h2), rfl⟩
end Go.Proofs.YtdbadicpbmndbaaGreat
/- Walks: what is ranged over: a row from behind, a term's parts. -/
set_option linter.unusedVariables false
set_option linter.unusedSimpArgs false
/- short -/
namespace Go.Proofs.YtdbadicpbmndbaaGreat
open Go Lg

def encB (ts : List T) (ss : Nat → Option Addr × Nat) (_ : Imm) (i : Nat) (vs : List Value) : Prop :=
  ∃ hi : i < ts.length, vs = [.int .i64 i, .agg #[.int .i64 ts[i].head, .slice (ss i).1 ts[i].args.length (ss i).2]]
theorem back_iter {I : Imm} {ts : List T} {ad : Option Addr} {c b : Nat} {ss : Nat → Option Addr × Nat} (hb : ts.length ≤ 4398046511104)
    (hat : ∀ i (h : i < ts.length), At I ad (i * 2) [.int .i64 ts[i].head, .slice (ss i).1 ts[i].args.length (ss i).2]) :
    Iter Tryz.prog 158 [.pointer (some ⟨b, 0, none⟩)] I [.box b 46 [.slice ad ts.length c]] (encB ts ss) (List.range ts.length).reverse := by
  intro yv J δ hmono h0 hy
  refine Does.intro Tryz.func158 rfl Tryz.ntmps158 rfl fun w0 => ?_
  refine code_seq ?_
  refine code_region ?_
  refine op_v (v_loadA ty46 rfl rfl) rfl ?_
  refine op_v (v_len Tryz.underlying46 rfl) rfl ?_
  refine op_v (v_subb rfl rfl rfl (by omega)) rfl ?_
  refine op_v (v_assign rfl) rfl ?_
  refine ops_nil ?_
  refine post_next ?_
  refine code_block ?_
  refine code_loop (fun m σ' I' δ' => ∃ (k : Nat) (δJ : List Ent), m = ts.length - k ∧ k ≤ ts.length ∧ σ' = [(0, yv), (1, .pointer (some ⟨b, 0, none⟩)), (3, .int .i64 ((ts.length : Int) - 1 - k))] ∧ I.le I' ∧ δ' = .box b 46 [.slice ad ts.length c] :: δJ ∧ J ((List.range ts.length).reverse.take k) I' δJ) ts.length [(0, yv), (1, .pointer (some ⟨b, 0, none⟩)), (3, .int .i64 ((ts.length : Int) - 1))] ⟨0, δ, rfl, Nat.zero_le _, by simp, Imm.le_refl _, rfl, h0⟩ ⟨rfl, rfl, rfl, trivial⟩ ?_
  rintro m _ I0 _ ⟨k, δJ, rfl, hk, rfl, hI0, rfl, hJ⟩
  refine code_seq ?_
  refine code_seq ?_
  refine code_region ?_
  refine op_v (v_move rfl) rfl ?_
  refine op_v (v_cmp rfl rfl rfl) rfl ?_
  refine ops_nil ?_
  refine post_next ?_
  refine code_cond rfl (fun hc0 => ?_) (fun hc0 => ?_)
  · have hq : 0 ≤ (ts.length : Int) - 1 - k := by simpa using hc0
    have hlt : k < ts.length := by omega
    obtain ⟨j, hj⟩ : ∃ j : Nat, j = ts.length - 1 - k := ⟨_, rfl⟩
    have hji : (ts.length : Int) - 1 - k = (j : Nat) := by omega
    rw [hji]
    have hjl : j < ts.length := by omega
    have hs1 := (hat j hjl).isSome
    have hx := range_rev ts.length k hlt
    rw [← hj] at hx
    have hx2 := range_rev_take ts.length k hlt
    rw [← hj] at hx2
    refine code_skip ?_
    refine post_next ?_
    refine code_seq ?_
    refine code_block ?_
    refine code_seq ?_
    refine code_region ?_
    refine op_v (v_move rfl) rfl ?_
    refine op_v (v_move rfl) rfl ?_
    refine op_v (v_loadA ty46 rfl rfl) rfl ?_
    refine op_v (v_move rfl) rfl ?_
    refine op_v (v_indexA Tryz.underlying46 sz48 rfl rfl) rfl ?_
    refine op_v (v_loadI0 ty48 ((hat j hjl).mono hI0) rfl rfl rfl) rfl ?_
    refine op_fcall rfl rfl rfl ((hy _ j _ _ _ _ hx hI0 hJ ⟨hjl, rfl⟩)) (List.perm_append_comm (l₁ := [_])) ?_
    rintro v17 I17 δ17 hI17 ⟨rfl, hJ17⟩
    refine OpsJ.view (View.perm (List.perm_append_comm (l₂ := [_]))) ?_
    rw [← hx2] at hJ17
    refine op_v (v_not rfl) rfl ?_
    refine ops_nil ?_
    refine post_next ?_
    refine code_cond_f rfl ?_
    refine code_skip ?_
    refine post_out ?_
    refine post_next ?_
    refine code_region ?_
    refine op_v (v_move rfl) rfl ?_
    refine op_v (v_subb rfl rfl rfl (by omega)) rfl ?_
    refine op_v (v_assign rfl) rfl ?_
    refine ops_nil ?_
    refine post_again (ts.length - (k + 1)) [(0, yv), (1, .pointer (some ⟨b, 0, none⟩)), (3, .int .i64 ((j : Int) - 1))] (by omega) ⟨k + 1, δ17, rfl, hlt, ?_, Imm.le_trans hI0 hI17, rfl, hJ17⟩ ⟨rfl, rfl, rfl, trivial⟩
    rw [show (j : Int) - 1 = (ts.length : Int) - 1 - ((k + 1 : Nat) : Int) by omega]
  · have hq : ¬ 0 ≤ (ts.length : Int) - 1 - k := by simpa using hc0
    have hge : k = ts.length := by omega
    have hall : (List.range ts.length).reverse.take k = (List.range ts.length).reverse := List.take_of_length_le (by simp; omega)
    rw [hall] at hJ
    refine code_exit ?_
    refine post_exit_then ?_
    refine post_exit_then ?_
    refine post_exit ?_
    refine post_end (rs := []) rfl (List.Perm.refl _) .nil (List.Sublist.refl _) ⟨δJ, hJ, rfl⟩

theorem Backward_does {I : Imm} {s : Value} :
    Does Tryz.prog 131 [s] I [] (fun v I' δ' => ∃ b, v = .func (.func 158) #[] #[.pointer (some ⟨b, 0, none⟩)] ∧ δ' = [.box b 46 (cellsL s)]) := by
  refine Does.intro Tryz.func131 rfl Tryz.ntmps131 rfl fun w0 => ?_
  refine code_seq ?_
  refine code_region ?_
  refine o_box rfl rfl rfl (fun b1 => ?_)
  refine op_v (v_assign rfl) rfl ?_
  refine ops_nil ?_
  refine post_next ?_
  refine code_seq ?_
  refine code_region ?_
  refine op_v (v_makeFunc rfl rfl) rfl ?_
  refine op_v (v_assign rfl) rfl ?_
  refine ops_nil ?_
  refine post_next ?_
  refine code_ret ?_
  refine post_ret (rs := [.tmp 2]) rfl (List.Perm.refl _) (.cons (.tmp rfl) .nil) (List.Sublist.refl _) ?_
  exact ⟨b1, rfl, rfl⟩
theorem parts_does {I : Imm} {h s : Value} :
    Does Tryz.prog 94 [.agg #[h, s]] I [] (fun v I' δ' => ∃ b, v = .func (.func 130) #[] #[.pointer (some ⟨b, 0, none⟩)] ∧ δ' = [.box b 48 [h, s]]) := by
  refine Does.intro Tryz.func94 rfl Tryz.ntmps94 rfl fun w0 => ?_
  refine code_seq ?_
  refine code_region ?_
  refine o_box rfl rfl rfl (fun b1 => ?_)
  refine op_v (v_assign rfl) rfl ?_
  refine ops_nil ?_
  refine post_next ?_
  refine code_seq ?_
  refine code_region ?_
  refine op_v (v_makeFunc rfl rfl) rfl ?_
  refine op_v (v_assign rfl) rfl ?_
  refine ops_nil ?_
  refine post_next ?_
  refine code_ret ?_
  refine post_ret (rs := [.tmp 2]) rfl (List.Perm.refl _) (.cons (.tmp rfl) .nil) (List.Sublist.refl _) ?_
  exact ⟨b1, rfl, rfl⟩
end Go.Proofs.YtdbadicpbmndbaaGreat
/- Walk: a term's parts, ranged over. -/
set_option linter.unusedVariables false
set_option linter.unusedSimpArgs false
/- short -/
namespace Go.Proofs.YtdbadicpbmndbaaGreat
open Go Lg

theorem Lg.OpsJ.rowSome {C : Ctx} {Q : Exit → Act → World → Prop} {σ : Env} {ds : List Nat} {I : Imm} {δ : List Ent} {ops : Array Oper} {rest : List Oper} {A : Option Addr} {c n size : Nat} {e : TypeId} {xs : List Value} (hd : Has δ (.row (.slice A n c) e size n xs)) (hn : 0 < n)
    (h : A.isSome = true → n ≤ c → OpsJ C ops Q rest σ ds I δ) : OpsJ C ops Q rest σ ds I δ := by
  intro a w he hs ht
  have hr : w.ownsRow 0 e size (.slice A n c) n xs := hs.ents _ hd.mem
  rcases hr.2 with ⟨h1, h2⟩ | ⟨g, cap, cur, h1, _, _, h3, _⟩
  · omega
  · cases h1
    exact h rfl h3 a w he hs ht

theorem partsT_eq (d : Nat) (u : T) : partsT d u = (d, u) :: partsL (d + 1) u.args := by cases u; rfl
def encP (I : Imm) (x : Nat × T) (vs : List Value) : Prop :=
  ∃ a c, vs = [.int .i64 x.1, .agg #[.int .i64 x.2.head, .slice a x.2.args.length c]] ∧ RepT I (.agg #[.int .i64 x.2.head, .slice a x.2.args.length c]) x.2

theorem parts_iter {I : Imm} {t : T} {ad : Option Addr} {c b : Nat} (hv : RepT I (.agg #[.int .i64 t.head, .slice ad t.args.length c]) t) (hbig : t.size ≤ 1000000000) :
    Iter Tryz.prog 130 [.pointer (some ⟨b, 0, none⟩)] I [.box b 48 [.int .i64 t.head, .slice ad t.args.length c]] encP (partsT 1 t) := by
  intro yv J δ hmono h0 hy
  refine Does.intro Tryz.func130 rfl Tryz.ntmps130 rfl fun w0 => ?_
  refine code_seq ?_
  refine code_region ?_
  refine op_v (v_loadA ty48 rfl rfl) rfl ?_
  refine op_v (v_build bl139 rfl rfl) rfl ?_
  refine o_buildSlice (xs := [(Go.Operand.tmp 8)]) Tryz.underlying140 bs139 rfl rfl rfl rfl rfl (fun b9 => ?_)
  refine o_alloc z140 rfl rfl (fun b3 => ?_)
  refine o_store ty140 rfl rfl rfl rfl rfl (by repeat (first | exact Swap.here | apply Swap.there)) rfl ?_
  refine ops_nil ?_
  refine post_next ?_
  refine code_block ?_
  refine code_loopD (fun m σ' ds' I' δ' => ∃ (pre st : List (Nat × T)) (ar : Option Addr) (cr : Nat) (xs : List Value) (δJ : List Ent), m = (partsS st).length ∧ σ' = [(0, yv), (1, .pointer (some ⟨b, 0, none⟩)), (3, .pointer (some ⟨b3, 0, none⟩))] ∧ I.le I' ∧ δ' = .box b3 140 [.slice ar st.length cr] :: .row (.slice ar st.length cr) 139 3 st.length xs :: .box b 48 [.int .i64 t.head, .slice ad t.args.length c] :: (MarkEnts ds' ++ δJ) ∧ J pre I' δJ ∧ RowK I' xs st ∧ pre ++ partsS st = partsT 1 t) (partsS [(1, t)]).length [(0, yv), (1, .pointer (some ⟨b, 0, none⟩)), (3, .pointer (some ⟨b3, 0, none⟩))] ⟨[], [(1, t)], _, _, _, δ, rfl, rfl, Imm.le_refl _, rfl, h0, RowK.one hv, by simp [partsS]⟩ ⟨rfl, rfl, rfl, trivial⟩ ?_
  rintro m _ ds0 I0 _ ⟨pre, st, ar, cr, xs, δJ, rfl, rfl, hI0, rfl, hJ, hrow, hall⟩
  refine code_seq ?_
  refine code_seq ?_
  refine code_region ?_
  refine op_v (v_loadA ty140 rfl rfl) rfl ?_
  refine op_v (v_len Tryz.underlying140 rfl) rfl ?_
  refine op_v (v_cmp rfl rfl rfl) rfl ?_
  refine ops_nil ?_
  refine post_next ?_
  refine code_cond rfl (fun hc0 => ?_) (fun hc0 => ?_)
  · rcases List.eq_nil_or_concat st with rfl | ⟨st', ⟨d, u⟩, rfl⟩
    · simp at hc0
    rw [List.concat_eq_append] at *
    have hlen : (st' ++ [(d, u)]).length = st'.length + 1 := by simp
    rw [hlen]
    obtain ⟨⟨sa, sc⟩, hld, hru⟩ := hrow.last
    have hrow' := hrow.take
    dsimp only at hld hru
    rw [partsS_snoc, partsT_eq] at hall
    have hdu := partsT_deep 1 t (d, u) (by rw [← hall]; simp)
    have hsz := congrArg List.length hall
    have hps := partsS_len st'
    have hus := sizeL_len u.args
    simp only [List.length_append, List.length_cons, partsT_length, partsL_length] at hsz
    dsimp only at hdu
    refine code_skip ?_
    refine post_next ?_
    refine code_block ?_
    refine code_seq ?_
    refine code_region ?_
    refine OpsJ.rowSome (Has.there Has.here) (by omega) (fun hA hcr => ?_)
    refine op_v (v_loadA ty140 rfl rfl) rfl ?_
    refine op_v (v_loadA ty140 rfl rfl) rfl ?_
    refine op_v (v_len Tryz.underlying140 rfl) rfl ?_
    refine op_v (v_subb rfl rfl rfl (by omega)) rfl ?_
    rw [show ((st'.length + 1 : Nat) : Int) - 1 = (st'.length : Nat) by omega]
    refine op_v (v_indexA Tryz.underlying140 sz139 rfl rfl) rfl ?_
    refine op_v (v_loadRow ty139 rfl (Has.there Has.here) hA hld) rfl ?_
    refine o_alloc z139 rfl rfl (fun b4 => ?_)
    refine o_store ty139 rfl rfl rfl rfl rfl (by repeat (first | exact Swap.here | apply Swap.there)) rfl ?_
    refine ops_nil ?_
    refine post_next ?_
    refine code_seq ?_
    refine code_region ?_
    refine op_v (v_loadA ty140 rfl rfl) rfl ?_
    refine op_v (v_loadA ty140 rfl rfl) rfl ?_
    refine op_v (v_len Tryz.underlying140 rfl) rfl ?_
    refine op_v (v_subb rfl rfl rfl (by omega)) rfl ?_
    rw [show ((st'.length + 1 : Nat) : Int) - 1 = (st'.length : Nat) by omega]
    refine op_v (v_sliceTo Tryz.underlying140 sz139 rfl rfl (by omega)) rfl ?_
    refine o_store ty140 rfl rfl rfl rfl rfl (by repeat (first | exact Swap.here | apply Swap.there)) rfl ?_
    refine ops_nil ?_
    refine post_next ?_
    refine code_seq ?_
    refine code_seq ?_
    refine code_region ?_
    refine OpsJ.view (View.short _ (Swap.there (Swap.there Swap.here)) (Nat.le_succ _)) ?_
    refine op_v (v_move rfl) rfl ?_
    refine op_v (v_fieldB 2 Tryz.underlying139 rfl rfl fz3 rfl) rfl ?_
    refine op_v (v_loadA ty3 rfl rfl) rfl ?_
    refine op_v (v_fieldB 0 Tryz.underlying139 rfl rfl fz48 rfl) rfl ?_
    refine op_v (v_loadA ty48 rfl rfl) rfl ?_
    refine op_fcall rfl rfl rfl ((hy pre (d, u) _ _ _ _ hall.symm hI0 hJ ⟨sa, sc, rfl, hru⟩)) (List.perm_append_comm (l₁ := _ :: _ :: _ :: _ :: MarkEnts ds0)) ?_
    rintro v29 I29 δ29 hI29 ⟨rfl, hJ29⟩
    refine OpsJ.view (View.perm (List.perm_append_comm (l₂ := _ :: _ :: _ :: _ :: MarkEnts ds0))) ?_
    refine op_v (v_not rfl) rfl ?_
    refine ops_nil ?_
    refine post_next ?_
    refine code_cond_f rfl ?_
    refine code_skip ?_
    refine post_next ?_
    refine code_seq ?_
    refine code_region ?_
    refine op_v (v_fieldB 0 Tryz.underlying139 rfl rfl fz48 rfl) rfl ?_
    refine op_v (v_fieldB 1 Tryz.underlying48 rfl rfl fz46 rfl) rfl ?_
    refine op_v (v_loadA ty46 rfl rfl) rfl ?_
    refine op_call pl131 rfl rfl ((Backward_does)) Parts.none ?_
    rintro v34 I34 _ hI34 ⟨b34, rfl, rfl⟩
    refine ops_nil ?_
    refine post_next ?_
    refine code_block ?_
    obtain ⟨_, _, hur, huc, hub, ss, hua, husub⟩ := (hru.mono (Imm.le_trans hI29 hI34)).open
    refine code_range (δb := [_, _, _]) (B := fun l I' δ' => ∃ (ar : Option Addr) (cr : Nat) (xs : List Value), δ' = [.box b4 139 [.int .i64 u.head, .slice sa u.args.length sc, .int .i64 d], .box b3 140 [.slice ar (st' ++ kids (d + 1) u.args l).length cr], .row (.slice ar (st' ++ kids (d + 1) u.args l).length cr) 139 3 (st' ++ kids (d + 1) u.args l).length xs] ∧ RowK I' xs (st' ++ kids (d + 1) u.args l)) rfl rfl pl158 rfl (back_iter hub hua) (List.Perm.refl _) ⟨ar, cr, _, by simp [kids]; rfl, by simpa [kids] using hrow'.mono (Imm.le_trans hI29 hI34)⟩ (by rintro _ _ _ ⟨_, rfl⟩; rfl) (by rintro l I1 I2 _ hle ⟨ar, cr, xs, rfl, hr⟩; exact ⟨ar, cr, xs, rfl, hr.mono hle⟩) ?_ ?_
    · rintro l r w1 pre2 j post2 I2 _ _ hrs hrp hx2 hI2 ⟨ar, cr, xs, rfl, hrow2⟩ ⟨hjl, rfl⟩
      have hpl := congrArg List.length hx2
      have hk2 : (st' ++ kids (d + 1) u.args pre2).length = st'.length + pre2.length := by simp [kids]
      have hk3 : st' ++ kids (d + 1) u.args (pre2 ++ [j]) = (st' ++ kids (d + 1) u.args pre2) ++ [(d + 1, u.args[j])] := by simp [kids, hjl]
      have hd1 : (d : Int) + 1 = ((d + 1 : Nat) : Int) := by omega
      simp only [List.length_reverse, List.length_range, List.length_append, List.length_cons] at hpl
      refine code_region ?_
      refine o_alloc z48 rfl rfl (fun b6 => ?_)
      refine o_store ty48 rfl rfl rfl rfl rfl (by repeat (first | exact Swap.here | apply Swap.there)) rfl ?_
      refine ops_nil ?_
      refine post_begin hrs (Swap.there Swap.here) ?_
      refine code_block ?_
      refine code_region ?_
      refine op_v (v_loadA ty140 rfl rfl) rfl ?_
      refine op_v (v_loadA ty48 rfl rfl) rfl ?_
      refine op_v (v_fieldB 2 Tryz.underlying139 rfl rfl fz3 rfl) rfl ?_
      refine op_v (v_loadA ty3 rfl rfl) rfl ?_
      refine op_v (v_addb rfl rfl rfl (by omega)) rfl ?_
      rw [hd1]
      refine op_v (v_build bl139 rfl rfl) rfl ?_
      refine o_buildSlice (xs := [(Go.Operand.tmp 42)]) Tryz.underlying140 bs139 rfl rfl rfl rfl rfl (fun b43 => ?_)
      refine o_append Tryz.underlying140 bs139 rfl rfl rfl (fun v' => by repeat (first | exact Swap.here | apply Swap.there)) (Src.ofRow (by repeat (first | exact Has.here | apply Has.there)) rfl) (by first | rfl | omega | simp) (by simp [cat, cellsL, Value.oneCell']) (by omega) (by omega) (fun a44 c44 => ?_)
      refine o_store ty140 rfl rfl rfl rfl rfl (by repeat (first | exact Swap.here | apply Swap.there)) rfl ?_
      refine ops_nil ?_
      refine post_out ?_
      refine PostJ.view ((View.drop Del.here).trans (View.drop Del.here)) ?_
      refine post_round Swap.here hrs hrp ⟨rfl, _, rfl, a44, c44, xs ++ [.int .i64 u.args[j].head, .slice (ss j).1 u.args[j].args.length (ss j).2, .int .i64 ((d + 1 : Nat) : Int)], ?_, ?_⟩
      · rw [hk3]; simp only [List.length_append, List.length_cons, List.length_nil]; rfl
      · rw [hk3]; exact hrow2.app (RowK.one ((husub j hjl).mono hI2))
    · rintro blk I3 _ hI3 ⟨ar, cr, xs, rfl, hrow3⟩
      refine post_out ?_
      refine post_out ?_
      refine PostJ.view ((View.drop (Del.there Del.here)).trans ((View.drop (Del.there Del.here)).trans (View.perm (List.perm_middle (l₁ := [_, _, _])).symm))) ?_
      refine post_againD (partsS (st' ++ kids (d + 1) u.args (List.range u.args.length).reverse)).length [(0, yv), (1, .pointer (some ⟨b, 0, none⟩)), (3, .pointer (some ⟨b3, 0, none⟩))] ?_ ⟨pre ++ [(d, u)], _, ar, cr, xs, δ29, rfl, rfl, Imm.le_trans hI0 (Imm.le_trans hI29 (Imm.le_trans hI34 hI3)), rfl, ?_, hrow3, ?_⟩ ⟨rfl, rfl, rfl, trivial⟩
      · rw [partsS_app, partsS_kids, partsS_snoc, partsT_eq]; simp
      · exact hmono _ _ _ _ (Imm.le_trans hI34 hI3) hJ29
      · rw [partsS_app, partsS_kids]; simpa using hall
  · have hst : st = [] := by simpa using hc0
    subst hst
    have hp : pre = partsT 1 t := by simpa [partsS] using hall
    subst hp
    refine code_exit ?_
    refine post_exit_then ?_
    refine post_exit_then ?_
    refine post_exit ?_
    refine post_end (rs := []) rfl (List.perm_append_comm_assoc [_, _, _] _ _) .nil (List.Sublist.cons _ (List.Sublist.cons _ (List.Sublist.refl _))) ⟨δJ, hJ, rfl⟩
end Go.Proofs.YtdbadicpbmndbaaGreat
/- Walks: size, depth, variables and rightness of a term, by the program. -/
set_option linter.unusedVariables false
set_option linter.unusedSimpArgs false
/- short -/
namespace Go.Proofs.YtdbadicpbmndbaaGreat
open Go Lg

/-! ### models -/
mutual
def depT : T → Nat
  | .mk _ ts => 1 + depL ts
def depL : List T → Nat
  | [] => 0
  | t :: r => max (depT t) (depL r)
end
def deepP (l : List (Nat × T)) : Nat := l.foldl (fun m x => max m x.1) 0
theorem deepP_snoc (l : List (Nat × T)) (x : Nat × T) : deepP (l ++ [x]) = max (deepP l) x.1 := by simp [deepP]
theorem foldl_max (l : List (Nat × T)) (m : Nat) : l.foldl (fun m x => max m x.1) m = max m (deepP l) := by
  induction l generalizing m with
  | nil => simp [deepP]
  | cons x r ih => rw [deepP, List.foldl_cons, List.foldl_cons, ih, ih]; omega
theorem deepP_app (l r : List (Nat × T)) : deepP (l ++ r) = max (deepP l) (deepP r) := by rw [deepP, List.foldl_append, foldl_max]; rfl
theorem deepP_cons (x : Nat × T) (r : List (Nat × T)) : deepP (x :: r) = max x.1 (deepP r) := by rw [deepP, List.foldl_cons, foldl_max]; omega
mutual
theorem deepP_T : ∀ (d : Nat) (t : T), deepP (partsT d t) + 1 = d + depT t
  | d, .mk h ts => by
    rw [partsT, deepP_cons]
    have := deepP_L (d + 1) ts
    simp only [depT]
    rcases this with ⟨rfl, h1⟩ | h1
    · simp [partsL, deepP, depL]
    · omega
theorem deepP_L : ∀ (d : Nat) (ts : List T), (ts = [] ∧ deepP (partsL d ts) = 0) ∨ deepP (partsL d ts) + 1 = d + depL ts
  | d, [] => .inl ⟨rfl, rfl⟩
  | d, t :: r => by
    right
    rw [partsL, deepP_app]
    have h1 := deepP_T d t
    have hd : 1 ≤ depT t := by cases t; simp [depT]
    simp only [depL]
    rcases deepP_L d r with ⟨hr, h2⟩ | h2
    · subst hr
      have h3 : depL ([] : List T) = 0 := by simp [depL]
      rw [h2, h3]; omega
    · omega
end
theorem dep_deep (t : T) : deepP (partsT 1 t) = depT t := by have := deepP_T 1 t; omega
mutual
theorem depT_size : ∀ t : T, depT t ≤ t.size
  | .mk h ts => by have := depL_size ts; simp [depT, T.size]; omega
theorem depL_size : ∀ ts : List T, depL ts ≤ sizeL ts
  | [] => by simp [depL, sizeL]
  | t :: r => by have := depT_size t; have := depL_size r; simp [depL, sizeL]; omega
end

end Go.Proofs.YtdbadicpbmndbaaGreat
/- Walks: a number among others; variables and rightness of a term; comparisons of numbers. -/
set_option linter.unusedVariables false
set_option linter.unusedSimpArgs false
/- short -/
namespace Go.Proofs.YtdbadicpbmndbaaGreat
open Go Lg

theorem ld_at {cs : List Value} {o : Nat} {x : Value} (h : cs[o]? = some x) : ld false 1 (cs.drop o) = some x := by
  obtain ⟨hl, rfl⟩ := List.getElem?_eq_some_iff.1 h
  rw [List.drop_eq_getElem_cons hl]; rfl
abbrev iRow (ar : Option Addr) (cr : Nat) (xs : List Int) : Ent := .row (.slice ar xs.length cr) 3 1 xs.length (xs.map (Value.int .i64))
theorem Index_does {I : Imm} {ar : Option Addr} {cr : Nat} {xs : List Int} {x : Int} (hb : xs.length ≤ 1000000000) :
    Does Tryz.prog 78 [.slice ar xs.length cr, .int .i64 x] I [iRow ar cr xs] (fun v I' δ' => (∃ n : Int, v = .int .i64 n ∧ (0 ≤ n ↔ x ∈ xs)) ∧ δ' = [iRow ar cr xs]) := by
  refine Does.intro Tryz.func78 rfl Tryz.ntmps78 rfl fun w0 => ?_
  refine code_seq ?_
  refine code_region ?_
  refine op_v (v_assign rfl) rfl ?_
  refine ops_nil ?_
  refine post_next ?_
  refine code_seq ?_
  refine code_seq ?_
  refine code_region ?_
  refine op_v (v_move rfl) rfl ?_
  refine op_v (v_len Tryz.underlying30 rfl) rfl ?_
  refine op_v (v_move rfl) rfl ?_
  refine ops_nil ?_
  refine post_next ?_
  refine code_block ?_
  refine code_loop (fun m σ' I' δ' => ∃ k : Nat, m = xs.length - k ∧ σ' = [(0, .slice ar xs.length cr), (1, .int .i64 x), (7, .int .i64 xs.length), (8, .int .i64 k)] ∧ I' = I ∧ δ' = [iRow ar cr xs] ∧ k ≤ xs.length ∧ x ∉ xs.take k) (xs.length - 0) [(0, .slice ar xs.length cr), (1, .int .i64 x), (7, .int .i64 xs.length), (8, .int .i64 (0 : Nat))] ⟨0, rfl, rfl, rfl, rfl, ⟨Nat.zero_le _, by simp⟩⟩ ⟨rfl, rfl, rfl, rfl, trivial⟩ ?_
  rintro m _ _ _ ⟨k, rfl, rfl, rfl, rfl, hp⟩
  obtain ⟨hk, hp⟩ := hp
  refine code_seq ?_
  refine code_region ?_
  refine op_v (v_cmp rfl rfl rfl) rfl ?_
  refine ops_nil ?_
  refine post_next ?_
  refine code_seq ?_
  refine code_cond rfl (fun hc0 => ?_) (fun hc0 => ?_)
  · have hlt : k < xs.length := by simpa using hc0
    refine code_skip ?_
    refine post_next ?_
    refine code_seq ?_
    refine code_block ?_
    refine code_seq ?_
    refine code_region ?_
    refine op_v (v_move rfl) rfl ?_
    refine op_v (v_assign rfl) rfl ?_
    refine ops_nil ?_
    refine post_next ?_
    refine code_seq ?_
    refine code_region ?_
    refine OpsJ.rowSome Has.here (by omega) (fun hA hcr => ?_)
    refine op_v (v_move rfl) rfl ?_
    refine op_v (v_move rfl) rfl ?_
    refine op_v (v_move rfl) rfl ?_
    refine op_v (v_indexA Tryz.underlying30 sz3 rfl rfl) rfl ?_
    refine op_v (v_loadRow ty3 rfl Has.here hA (ld_at (x := .int .i64 xs[k]) (by simp [hlt]))) rfl ?_
    refine op_v (v_cmp rfl rfl rfl) rfl ?_
    refine ops_nil ?_
    refine post_next ?_
    refine code_cond rfl (fun hc1 => ?_) (fun hc1 => ?_)
    · have heq : x = xs[k] := by simpa using hc1
      refine code_seq ?_
      refine code_region ?_
      refine op_v (v_move rfl) rfl ?_
      refine op_v (v_assign rfl) rfl ?_
      refine ops_nil ?_
      refine post_next ?_
      refine code_ret ?_
      refine post_ret_block ?_
      refine post_ret_then ?_
      refine post_ret_then ?_
      refine post_ret_block ?_
      refine post_ret_then ?_
      refine post_ret (rs := [.tmp 4]) rfl (List.Perm.refl _) (.cons (.tmp rfl) .nil) (List.Sublist.refl _) ?_
      exact ⟨⟨k, rfl, by rw [heq]; simp⟩, rfl⟩
    · have hne : x ≠ xs[k] := by simpa using hc1
      refine code_skip ?_
      refine post_out ?_
      refine post_next ?_
      refine code_region ?_
      refine op_v (v_addb rfl rfl rfl (by omega)) rfl ?_
      refine op_v (v_move rfl) rfl ?_
      refine ops_nil ?_
      refine post_again (xs.length - (k + 1)) [(0, .slice ar xs.length cr), (1, .int .i64 x), (7, .int .i64 xs.length), (8, .int .i64 (k + 1 : Nat))] (by omega) ⟨k + 1, rfl, rfl, rfl, rfl, ⟨hlt, by rw [List.take_succ_eq_append_getElem hlt, List.mem_append, List.mem_singleton]; exact fun h => h.elim hp hne⟩⟩ ⟨rfl, rfl, rfl, rfl, trivial⟩
  · have hge : k = xs.length := by simp at hc0; omega
    subst hge
    rw [List.take_length] at hp
    refine code_exit ?_
    refine post_exit_then ?_
    refine post_exit_then ?_
    refine post_exit ?_
    refine post_next ?_
    refine code_seq ?_
    refine code_region ?_
    refine op_v (v_assign rfl) rfl ?_
    refine ops_nil ?_
    refine post_next ?_
    refine code_ret ?_
    refine post_ret (rs := [.tmp 4]) rfl (List.Perm.refl _) (.cons (.tmp rfl) .nil) (List.Sublist.refl _) ?_
    exact ⟨⟨-1, rfl, by simp [hp]⟩, rfl⟩
theorem Contains_does {I : Imm} {ar : Option Addr} {cr : Nat} {xs : List Int} {x : Int} (hb : xs.length ≤ 1000000000) :
    Does Tryz.prog 34 [.slice ar xs.length cr, .int .i64 x] I [iRow ar cr xs] (fun v I' δ' => v = .bool (decide (x ∈ xs)) ∧ δ' = [iRow ar cr xs]) := by
  refine Does.intro Tryz.func34 rfl Tryz.ntmps34 rfl fun w0 => ?_
  refine code_seq ?_
  refine code_region ?_
  refine op_v (v_assign rfl) rfl ?_
  refine ops_nil ?_
  refine post_next ?_
  refine code_seq ?_
  refine code_region ?_
  refine op_v (v_move rfl) rfl ?_
  refine op_v (v_move rfl) rfl ?_
  refine op_call pl78 rfl rfl ((Index_does hb)) Parts.all ?_
  rintro v7 I7 _ hI7 ⟨⟨n7, rfl, hn7⟩, rfl⟩
  refine op_v (v_cmp rfl rfl rfl) rfl ?_
  refine op_v (v_assign rfl) rfl ?_
  refine ops_nil ?_
  refine post_next ?_
  refine code_ret ?_
  refine post_ret (rs := [.tmp 4]) rfl (List.Perm.refl _) (.cons (.tmp rfl) .nil) (List.Sublist.refl _) ?_
  exact ⟨bool_b (by simp [hn7]), rfl⟩

def orI : List Int → Int
  | [] => 0
  | x :: r => if x ≠ 0 then x else orI r
theorem In_does {I : Imm} {ar : Option Addr} {cr : Nat} {xs : List Int} {x : Int} (hb : xs.length ≤ 1000000000) :
    Does Tryz.prog 36 [.int .i64 x, .slice ar xs.length cr] I [iRow ar cr xs] (fun v I' δ' => v = .bool (decide (x ∈ xs)) ∧ δ' = [iRow ar cr xs]) := by
  refine Does.intro Tryz.func36 rfl Tryz.ntmps36 rfl fun w0 => ?_
  refine code_seq ?_
  refine code_region ?_
  refine op_v (v_assign rfl) rfl ?_
  refine ops_nil ?_
  refine post_next ?_
  refine code_seq ?_
  refine code_seq ?_
  refine code_region ?_
  refine op_v (v_assign rfl) rfl ?_
  refine ops_nil ?_
  refine post_next ?_
  refine code_block ?_
  refine code_loop (fun m σ' I' δ' => ∃ k : Nat, m = xs.length - k ∧ σ' = [(0, .int .i64 x), (1, .slice ar xs.length cr), (5, .int .i64 k)] ∧ I' = I ∧ δ' = [iRow ar cr xs] ∧ k ≤ xs.length ∧ x ∉ xs.take k) (xs.length - 0) [(0, .int .i64 x), (1, .slice ar xs.length cr), (5, .int .i64 (0 : Nat))] ⟨0, rfl, rfl, rfl, rfl, ⟨Nat.zero_le _, by simp⟩⟩ ⟨rfl, rfl, rfl, trivial⟩ ?_
  rintro m _ _ _ ⟨k, rfl, rfl, rfl, rfl, hp⟩
  obtain ⟨hk, hp⟩ := hp
  refine code_seq ?_
  refine code_seq ?_
  refine code_region ?_
  refine op_v (v_move rfl) rfl ?_
  refine op_v (v_move rfl) rfl ?_
  refine op_v (v_len Tryz.underlying30 rfl) rfl ?_
  refine op_v (v_cmp rfl rfl rfl) rfl ?_
  refine ops_nil ?_
  refine post_next ?_
  refine code_cond rfl (fun hc0 => ?_) (fun hc0 => ?_)
  · have hlt : k < xs.length := by simpa using hc0
    refine code_skip ?_
    refine post_next ?_
    refine code_seq ?_
    refine code_block ?_
    refine code_seq ?_
    refine code_region ?_
    refine OpsJ.rowSome Has.here (by omega) (fun hA hcr => ?_)
    refine op_v (v_move rfl) rfl ?_
    refine op_v (v_move rfl) rfl ?_
    refine op_v (v_indexA Tryz.underlying30 sz3 rfl rfl) rfl ?_
    refine op_v (v_loadRow ty3 rfl Has.here hA (ld_at (x := .int .i64 xs[k]) (by simp [hlt]))) rfl ?_
    refine op_v (v_move rfl) rfl ?_
    refine op_v (v_cmp rfl rfl rfl) rfl ?_
    refine ops_nil ?_
    refine post_next ?_
    refine code_cond rfl (fun hc1 => ?_) (fun hc1 => ?_)
    · have heq : xs[k] = x := by simpa using hc1
      refine code_seq ?_
      refine code_region ?_
      refine op_v (v_assign rfl) rfl ?_
      refine ops_nil ?_
      refine post_next ?_
      refine code_ret ?_
      refine post_ret_block ?_
      refine post_ret_then ?_
      refine post_ret_then ?_
      refine post_ret_block ?_
      refine post_ret_then ?_
      refine post_ret (rs := [.tmp 4]) rfl (List.Perm.refl _) (.cons (.tmp rfl) .nil) (List.Sublist.refl _) ?_
      exact ⟨by rw [show decide (x ∈ xs) = true by simp [← heq]]; rfl, rfl⟩
    · have hne : x ≠ xs[k] := by have h := hc1; simp at h; exact fun e => h e.symm
      refine code_skip ?_
      refine post_out ?_
      refine post_next ?_
      refine code_region ?_
      refine op_v (v_move rfl) rfl ?_
      refine op_v (v_addb rfl rfl rfl (by omega)) rfl ?_
      refine op_v (v_assign rfl) rfl ?_
      refine ops_nil ?_
      refine post_again (xs.length - (k + 1)) [(0, .int .i64 x), (1, .slice ar xs.length cr), (5, .int .i64 (k + 1 : Nat))] (by omega) ⟨k + 1, rfl, rfl, rfl, rfl, ⟨hlt, by rw [List.take_succ_eq_append_getElem hlt, List.mem_append, List.mem_singleton]; exact fun h => h.elim hp hne⟩⟩ ⟨rfl, rfl, rfl, trivial⟩
  · have hge : k = xs.length := by simp at hc0; omega
    subst hge
    rw [List.take_length] at hp
    refine code_exit ?_
    refine post_exit_then ?_
    refine post_exit_then ?_
    refine post_exit ?_
    refine post_next ?_
    refine code_seq ?_
    refine code_region ?_
    refine op_v (v_assign rfl) rfl ?_
    refine ops_nil ?_
    refine post_next ?_
    refine code_ret ?_
    refine post_ret (rs := [.tmp 4]) rfl (List.Perm.refl _) (.cons (.tmp rfl) .nil) (List.Sublist.refl _) ?_
    exact ⟨by rw [show decide (x ∈ xs) = false by simp [hp]]; rfl, rfl⟩
end Go.Proofs.YtdbadicpbmndbaaGreat
/- Walks: sizes, comparison. -/
set_option linter.unusedVariables false
set_option linter.unusedSimpArgs false
/- short -/
namespace Go.Proofs.YtdbadicpbmndbaaGreat
open Go Lg

theorem order_does (I : Imm) (a b : Int) :
    Does Tryz.prog 163 [.int .i64 a, .int .i64 b] I [] (fun v I' δ' => v = .int .i64 (ordI a b) ∧ δ' = []) := by
  refine Does.intro Tryz.func163 rfl Tryz.ntmps163 rfl fun w0 => ?_
  refine code_seq ?_
  refine code_region ?_
  refine op_v (v_assign rfl) rfl ?_
  refine ops_nil ?_
  refine post_next ?_
  refine code_seq ?_
  refine code_seq ?_
  refine code_region ?_
  refine op_v (v_move rfl) rfl ?_
  refine op_v (v_move rfl) rfl ?_
  refine op_v (v_cmp rfl rfl rfl) rfl ?_
  refine ops_nil ?_
  refine post_next ?_
  refine code_cond rfl (fun hc0 => ?_) (fun hc0 => ?_)
  · have h1 : a < b := by simpa using hc0
    refine code_seq ?_
    refine code_region ?_
    refine op_v (v_assign rfl) rfl ?_
    refine ops_nil ?_
    refine post_next ?_
    refine code_ret ?_
    refine post_ret_then ?_
    refine post_ret (rs := [.tmp 4]) rfl (List.Perm.refl _) (.cons (.tmp rfl) .nil) (List.nil_sublist _) ?_
    exact ⟨by simp [outV, ordI, h1], rfl⟩
  · have h1 : ¬ a < b := by simpa using hc0
    refine code_skip ?_
    refine post_next ?_
    refine code_seq ?_
    refine code_seq ?_
    refine code_region ?_
    refine op_v (v_move rfl) rfl ?_
    refine op_v (v_move rfl) rfl ?_
    refine op_v (v_cmp rfl rfl rfl) rfl ?_
    refine ops_nil ?_
    refine post_next ?_
    refine code_cond rfl (fun hc1 => ?_) (fun hc1 => ?_)
    · have h2 : b < a := by simpa using hc1
      refine code_seq ?_
      refine code_region ?_
      refine op_v (v_assign rfl) rfl ?_
      refine ops_nil ?_
      refine post_next ?_
      refine code_ret ?_
      refine post_ret_then ?_
      refine post_ret (rs := [.tmp 4]) rfl (List.Perm.refl _) (.cons (.tmp rfl) .nil) (List.nil_sublist _) ?_
      exact ⟨by simp [outV, ordI, h1, h2], rfl⟩
    · have h2 : ¬ b < a := by simpa using hc1
      refine code_skip ?_
      refine post_next ?_
      refine code_seq ?_
      refine code_region ?_
      refine op_v (v_assign rfl) rfl ?_
      refine ops_nil ?_
      refine post_next ?_
      refine code_ret ?_
      refine post_ret (rs := [.tmp 4]) rfl (List.Perm.refl _) (.cons (.tmp rfl) .nil) (List.nil_sublist _) ?_
      exact ⟨by simp [outV, ordI, h1, h2], rfl⟩

theorem Size_does : ∀ (n : Nat) (t : T), t.size ≤ n → t.size ≤ 1000000000 → ∀ (I : Imm) (v : Value), RepT I v t →
    Does Tryz.prog 160 [v] I [] (fun v I' δ' => v = .int .i64 t.size ∧ δ' = []) := by
  intro n
  induction n with
  | zero => intro t ht; have := t.size_pos; omega
  | succ n ih =>
    intro t ht hbig I v hv
    obtain ⟨h, ts⟩ := t
    obtain ⟨ad, c, ss, rfl, hr, hc, hb, hat, hsub⟩ := hv.elim
    have hsz : (T.mk h ts).size = 1 + sizeL ts := by simp [T.size]
    refine Does.intro Tryz.func160 rfl Tryz.ntmps160 rfl fun w0 => ?_
    refine code_seq ?_
    refine code_region ?_
    refine o_box rfl rfl rfl (fun b1 => ?_)
    refine op_v (v_assign rfl) rfl ?_
    refine ops_nil ?_
    refine post_next ?_
    refine code_seq ?_
    refine code_region ?_
    refine op_v (v_assign rfl) rfl ?_
    refine ops_nil ?_
    refine post_next ?_
    refine code_seq ?_
    refine code_seq ?_
    refine code_region ?_
    refine op_v (v_assign rfl) rfl ?_
    refine ops_nil ?_
    refine post_next ?_
    refine code_block ?_
    refine code_loop (fun m σ' I' δ' => ∃ k a : Nat, m = ts.length - k ∧ k ≤ ts.length ∧ σ' = [(1, .pointer (some ⟨b1, 0, none⟩)), (3, .int .i64 a), (4, .int .i64 k)] ∧ I.le I' ∧ δ' = [.box b1 48 [.int .i64 h, .slice ad ts.length c]] ∧ a + sizeL (ts.drop k) = 1 + sizeL ts) ts.length [(1, .pointer (some ⟨b1, 0, none⟩)), (3, .int .i64 (1 : Nat)), (4, .int .i64 (0 : Nat))] ⟨0, 1, rfl, Nat.zero_le _, rfl, Imm.le_refl _, rfl, rfl⟩ ⟨rfl, rfl, rfl, trivial⟩ ?_
    rintro m _ I0 _ ⟨k, a, rfl, hk, rfl, hI0, rfl, hp⟩
    refine code_seq ?_
    refine code_seq ?_
    refine code_region ?_
    refine op_v (v_move rfl) rfl ?_
    refine op_v (v_fieldB 1 Tryz.underlying48 rfl rfl fz46 rfl) rfl ?_
    refine op_v (v_loadA ty46 rfl rfl) rfl ?_
    refine op_v (v_len Tryz.underlying46 rfl) rfl ?_
    refine op_v (v_cmp rfl rfl rfl) rfl ?_
    refine ops_nil ?_
    refine post_next ?_
    refine code_cond rfl (fun hc0 => ?_) (fun hc0 => ?_)
    · have hlt : k < ts.length := by simpa using hc0
      have hs1 := (hat k hlt).isSome
      have hd := sizeL_drop ts k hlt
      have hm := sizeL_mem ts k hlt
      refine code_skip ?_
      refine post_next ?_
      refine code_seq ?_
      refine code_block ?_
      refine code_region ?_
      refine op_v (v_move rfl) rfl ?_
      refine op_v (v_fieldB 1 Tryz.underlying48 rfl rfl fz46 rfl) rfl ?_
      refine op_v (v_loadA ty46 rfl rfl) rfl ?_
      refine op_v (v_move rfl) rfl ?_
      refine op_v (v_indexA Tryz.underlying46 sz48 rfl rfl) rfl ?_
      refine op_v (v_loadI0 ty48 ((hat k hlt).mono hI0) rfl rfl rfl) rfl ?_
      refine op_call pl160 rfl rfl ((ih ts[k] (by omega) (by omega) _ _ ((hsub k hlt).mono hI0))) Parts.none ?_
      rintro _ I18 _ hI18 ⟨rfl, rfl⟩
      refine op_v (v_addb rfl rfl rfl (by omega)) rfl ?_
      refine op_v (v_assign rfl) rfl ?_
      refine ops_nil ?_
      refine post_out ?_
      refine post_next ?_
      refine code_region ?_
      refine op_v (v_move rfl) rfl ?_
      refine op_v (v_addb rfl rfl rfl (by omega)) rfl ?_
      refine op_v (v_assign rfl) rfl ?_
      refine ops_nil ?_
      refine post_again (ts.length - (k + 1)) [(1, .pointer (some ⟨b1, 0, none⟩)), (3, .int .i64 ((a + ts[k].size : Nat) : Int)), (4, .int .i64 ((k + 1 : Nat) : Int))] (by omega) ⟨k + 1, a + ts[k].size, rfl, hlt, rfl, Imm.le_trans hI0 hI18, rfl, by omega⟩ ⟨rfl, rfl, rfl, trivial⟩
    · have hge : ¬ k < ts.length := by simpa using hc0
      rw [List.drop_eq_nil_of_le (by omega)] at hp
      simp only [sizeL] at hp
      refine code_exit ?_
      refine post_exit_then ?_
      refine post_exit_then ?_
      refine post_exit ?_
      refine post_next ?_
      refine code_seq ?_
      refine code_region ?_
      refine op_v (v_move rfl) rfl ?_
      refine op_v (v_assign rfl) rfl ?_
      refine ops_nil ?_
      refine post_next ?_
      refine code_ret ?_
      refine post_ret (rs := [.tmp 2]) rfl (List.Perm.refl _) (.cons (.tmp rfl) .nil) (List.nil_sublist _) ?_
      exact ⟨by simp only [outV, hsz]; congr 2, rfl⟩

theorem Count_does : ∀ (n : Nat) (t : T), t.size ≤ n → ∀ (q : Nat), q ≤ 1000000000 → ∀ (I : Imm) (v : Value), RepT I v t →
    Does Tryz.prog 24 [v, .int .i64 q] I [] (fun v I' δ' => v = .int .i64 ((min t.size (q + 1) : Nat) : Int) ∧ δ' = []) := by
  intro n
  induction n with
  | zero => intro t ht; have := t.size_pos; omega
  | succ n ih =>
    intro t ht q hq I v hv
    obtain ⟨h, ts⟩ := t
    obtain ⟨ad, c, ss, rfl, hr, hc, hb, hat, hsub⟩ := hv.elim
    have hsz : (T.mk h ts).size = 1 + sizeL ts := by simp [T.size]
    refine Does.intro Tryz.func24 rfl Tryz.ntmps24 rfl fun w0 => ?_
    refine code_seq ?_
    refine code_region ?_
    refine o_box rfl rfl rfl (fun b2 => ?_)
    refine op_v (v_assign rfl) rfl ?_
    refine ops_nil ?_
    refine post_next ?_
    refine code_seq ?_
    refine code_region ?_
    refine op_v (v_assign rfl) rfl ?_
    refine ops_nil ?_
    refine post_next ?_
    refine code_seq ?_
    refine code_seq ?_
    refine code_region ?_
    refine op_v (v_assign rfl) rfl ?_
    refine ops_nil ?_
    refine post_next ?_
    refine code_block ?_
    refine code_loop (fun m σ' I' δ' => ∃ k a : Nat, m = ts.length - k ∧ k ≤ ts.length ∧ σ' = [(1, .int .i64 q), (2, .pointer (some ⟨b2, 0, none⟩)), (5, .int .i64 a), (6, .int .i64 k)] ∧ I.le I' ∧ δ' = [.box b2 48 [.int .i64 h, .slice ad ts.length c]] ∧ a ≤ q + 1 ∧ min (a + sizeL (ts.drop k)) (q + 1) = min (1 + sizeL ts) (q + 1)) ts.length [(1, .int .i64 q), (2, .pointer (some ⟨b2, 0, none⟩)), (5, .int .i64 (1 : Nat)), (6, .int .i64 (0 : Nat))] ⟨0, 1, rfl, Nat.zero_le _, rfl, Imm.le_refl _, rfl, by omega, rfl⟩ ⟨rfl, rfl, rfl, rfl, trivial⟩ ?_
    rintro m _ I0 _ ⟨k, a, rfl, hk, rfl, hI0, rfl, ha, hp⟩
    refine code_seq ?_
    refine code_seq ?_
    refine code_region ?_
    refine op_v (v_move rfl) rfl ?_
    refine op_v (v_fieldB 1 Tryz.underlying48 rfl rfl fz46 rfl) rfl ?_
    refine op_v (v_loadA ty46 rfl rfl) rfl ?_
    refine op_v (v_len Tryz.underlying46 rfl) rfl ?_
    by_cases hlt : k < ts.length
    · refine op_v (v_cmptA rfl rfl rfl) rfl ?_
      refine op_v (v_move rfl) rfl ?_
      refine op_want rfl rfl ?_
      refine op_v (v_move rfl) rfl ?_
      refine op_want rfl rfl ?_
      refine op_v (v_move rfl) rfl ?_
      by_cases hle : a ≤ q
      · first
          | (refine op_want rfl rfl ?_
             refine op_v (v_cmptA rfl rfl rfl) rfl ?_)
          | (refine op_skip rfl rfl (by simp [undef]) rfl ?_)
        refine op_v (v_pickt rfl rfl) rfl ?_
        refine ops_nil ?_
        refine post_next ?_
        refine code_cond_t rfl ?_
        refine code_skip ?_
        refine post_next ?_
        refine code_seq ?_
        refine code_block ?_
        refine code_region ?_
        have hs1 := (hat k hlt).isSome
        have hd := sizeL_drop ts k hlt
        have hm := sizeL_mem ts k hlt
        refine op_v (v_move rfl) rfl ?_
        refine op_v (v_fieldB 1 Tryz.underlying48 rfl rfl fz46 rfl) rfl ?_
        refine op_v (v_loadA ty46 rfl rfl) rfl ?_
        refine op_v (v_move rfl) rfl ?_
        refine op_v (v_indexA Tryz.underlying46 sz48 rfl rfl) rfl ?_
        refine op_v (v_loadI0 ty48 ((hat k hlt).mono hI0) rfl rfl rfl) rfl ?_
        refine op_v (v_move rfl) rfl ?_
        refine op_v (v_move rfl) rfl ?_
        refine op_v (v_subb (c := ((q - a : Nat) : Int)) rfl rfl (by omega) (by omega)) rfl ?_
        refine op_call pl24 rfl rfl ((ih ts[k] (by omega) (q - a) (by omega) _ _ ((hsub k hlt).mono hI0))) Parts.none ?_
        rintro _ I18 _ hI18 ⟨rfl, rfl⟩
        refine op_v (v_addb rfl rfl rfl (by omega)) rfl ?_
        refine op_v (v_assign rfl) rfl ?_
        refine ops_nil ?_
        refine post_out ?_
        refine post_next ?_
        refine code_region ?_
        refine op_v (v_move rfl) rfl ?_
        refine op_v (v_addb rfl rfl rfl (by omega)) rfl ?_
        refine op_v (v_assign rfl) rfl ?_
        refine ops_nil ?_
        refine post_again (ts.length - (k + 1)) [(1, .int .i64 q), (2, .pointer (some ⟨b2, 0, none⟩)), (5, .int .i64 ((a + min ts[k].size (q - a + 1) : Nat) : Int)), (6, .int .i64 ((k + 1 : Nat) : Int))] (by omega) ⟨k + 1, a + min ts[k].size (q - a + 1), rfl, hlt, rfl, Imm.le_trans hI0 hI18, rfl, by omega, by omega⟩ ⟨rfl, rfl, rfl, rfl, trivial⟩
      · first
          | (refine op_want rfl rfl ?_
             refine op_v (v_cmpfA rfl rfl rfl) rfl ?_)
          | (refine op_skip rfl rfl (by simp [undef]) rfl ?_)
        refine op_v (v_pickt rfl rfl) rfl ?_
        refine ops_nil ?_
        refine post_next ?_
        refine code_cond_f rfl ?_
        refine code_exit ?_
        refine post_exit_then ?_
        refine post_exit_then ?_
        refine post_exit ?_
        refine post_next ?_
        refine code_seq ?_
        refine code_region ?_
        refine op_v (v_move rfl) rfl ?_
        refine op_v (v_assign rfl) rfl ?_
        refine ops_nil ?_
        refine post_next ?_
        refine code_ret ?_
        refine post_ret (rs := [.tmp 4]) rfl (List.Perm.refl _) (.cons (.tmp rfl) .nil) (List.nil_sublist _) ?_
        exact ⟨by simp only [outV, hsz, ← hp]; congr 2; omega, rfl⟩
    · refine op_v (v_cmpfA rfl rfl rfl) rfl ?_
      refine op_v (v_move rfl) rfl ?_
      refine op_skip rfl rfl (by simp [undef]) rfl ?_
      refine op_skip rfl rfl (by simp [undef]) rfl ?_
      refine op_skip rfl rfl (by simp [undef]) rfl ?_
      refine op_v (v_pickf rfl rfl) rfl ?_
      refine ops_nil ?_
      refine post_next ?_
      refine code_cond_f rfl ?_
      refine code_exit ?_
      refine post_exit_then ?_
      refine post_exit_then ?_
      refine post_exit ?_
      refine post_next ?_
      refine code_seq ?_
      refine code_region ?_
      refine op_v (v_move rfl) rfl ?_
      refine op_v (v_assign rfl) rfl ?_
      refine ops_nil ?_
      refine post_next ?_
      refine code_ret ?_
      refine post_ret (rs := [.tmp 4]) rfl (List.Perm.refl _) (.cons (.tmp rfl) .nil) (List.nil_sublist _) ?_
      rw [List.drop_eq_nil_of_le (by omega)] at hp
      simp only [sizeL] at hp
      exact ⟨by simp only [outV, hsz, ← hp]; congr 2; omega, rfl⟩

theorem Compare_does : ∀ (n : Nat) (t u : T), t.size ≤ n → t.size ≤ 1000000000 → u.size ≤ 1000000000 → ∀ (I : Imm) (v w : Value), RepT I v t → RepT I w u →
    Does Tryz.prog 135 [v, w] I [] (fun v I' δ' => v = .int .i64 (cmpT t u) ∧ δ' = []) := by
  intro n
  induction n with
  | zero => intro t _ ht; have := t.size_pos; omega
  | succ n ih =>
    intro t u ht hbt hbu I v w hv hw
    have hv' := hv
    have hw' := hw
    obtain ⟨h, ts⟩ := t
    obtain ⟨g, us⟩ := u
    obtain ⟨ad, c, ss, rfl, hr, hc, hb, hat, hsub⟩ := hv.elim
    obtain ⟨bd, e, rr, rfl, hr2, hc2, hb2, hat2, hsub2⟩ := hw.elim
    have hsz : (T.mk h ts).size = 1 + sizeL ts := by simp [T.size]
    have hsz2 : (T.mk g us).size = 1 + sizeL us := by simp [T.size]
    refine Does.intro Tryz.func135 rfl Tryz.ntmps135 rfl fun w0 => ?_
    refine code_seq ?_
    refine code_region ?_
    refine o_box rfl rfl rfl (fun b2 => ?_)
    refine o_box rfl rfl rfl (fun b3 => ?_)
    refine op_v (v_assign rfl) rfl ?_
    refine ops_nil ?_
    refine post_next ?_
    refine code_seq ?_
    refine code_seq ?_
    refine code_draw (.fl 0 (.fl 2 (.ef 1 (.ef 3 (.fl 4 .done))))) (fun _ => _) mixed (by kernel_rfl) (by kernel_rfl) (fun _ => (List.Sublist.refl _)) ?_
    refine e_float rfl rfl (fun hs_ => PF.mk rfl (v_loadA ty48 rfl rfl) hs_) (by first | exact Imm.le_refl _ | exact hI8 | exact Imm.le_trans hI8 hI10) (by intro x hx; first | exact hx | exact List.mem_cons_of_mem _ hx | exact List.mem_append_right _ hx | (simp only [List.mem_cons, List.not_mem_nil, or_false] at hx; repeat' (first | (subst hx; simp [cellsL]; done) | rcases hx with hx | hx)) | simp_all) ?_
    refine e_float rfl rfl (fun hs_ => PF.mk rfl (v_loadA ty48 rfl rfl) hs_) (by first | exact Imm.le_refl _ | exact hI8 | exact Imm.le_trans hI8 hI10) (by intro x hx; first | exact hx | exact List.mem_cons_of_mem _ hx | exact List.mem_append_right _ hx | (simp only [List.mem_cons, List.not_mem_nil, or_false] at hx; repeat' (first | (subst hx; simp [cellsL]; done) | rcases hx with hx | hx)) | simp_all) ?_
    refine e_eff rfl (by intro cs b hc; cases hc) (by intro c hc; cases hc) ?_
    refine op_call pl160 rfl rfl ((Size_does _ _ (Nat.le_refl _) hbt _ _ hv')) Parts.none ?_
    rintro _ I8 _ hI8 ⟨rfl, rfl⟩
    refine ops_nil ?_
    refine e_next rfl (side_all (by first | exact Imm.le_refl _ | exact hI8 | exact Imm.le_trans hI8 hI10) (fun _ => (by intro x hx; first | exact hx | exact List.mem_cons_of_mem _ hx | exact List.mem_append_right _ hx | (simp only [List.mem_cons, List.not_mem_nil, or_false] at hx; repeat' (first | (subst hx; simp [cellsL]; done) | rcases hx with hx | hx)) | simp_all))) ?_
    refine e_eff rfl (by intro cs b hc; cases hc) (by intro c hc; cases hc) ?_
    refine op_call pl160 rfl rfl ((Size_does _ _ (Nat.le_refl _) hbu _ _ (hw'.mono hI8))) Parts.none ?_
    rintro _ I10 _ hI10 ⟨rfl, rfl⟩
    refine ops_nil ?_
    refine e_next rfl (side_nil (by kernel_rfl)) ?_
    refine e_float rfl rfl (fun hs_ => PF.mk rfl (v_cmp rfl rfl rfl) hs_) (by first | exact Imm.le_refl _ | exact hI8 | exact Imm.le_trans hI8 hI10) (by intro x hx; first | exact hx | exact List.mem_cons_of_mem _ hx | exact List.mem_append_right _ hx | (simp only [List.mem_cons, List.not_mem_nil, or_false] at hx; repeat' (first | (subst hx; simp [cellsL]; done) | rcases hx with hx | hx)) | simp_all) ?_
    refine e_done ?_
    refine post_next ?_
    refine code_cond rfl (fun hc0 => ?_) (fun hc0 => ?_)
    · have he : sizeL ts ≠ sizeL us := by simp [T.size] at hc0; omega
      refine code_seq ?_
      refine code_draw (.fl 0 (.fl 2 (.ef 1 (.ef 3 (.ef 4 (.ef 5 .done)))))) (fun _ => _) mixed (by kernel_rfl) (by kernel_rfl) (fun _ => (List.Sublist.refl _)) ?_
      refine e_float rfl rfl (fun hs_ => PF.mk rfl (v_loadA ty48 rfl rfl) hs_) (by first | exact Imm.le_refl _ | exact hI13 | exact Imm.le_trans hI13 hI15) (by intro x hx; first | exact hx | exact List.mem_cons_of_mem _ hx | exact List.mem_append_right _ hx | (simp only [List.mem_cons, List.not_mem_nil, or_false] at hx; repeat' (first | (subst hx; simp [cellsL]; done) | rcases hx with hx | hx)) | simp_all) ?_
      refine e_float rfl rfl (fun hs_ => PF.mk rfl (v_loadA ty48 rfl rfl) hs_) (by first | exact Imm.le_refl _ | exact hI13 | exact Imm.le_trans hI13 hI15) (by intro x hx; first | exact hx | exact List.mem_cons_of_mem _ hx | exact List.mem_append_right _ hx | (simp only [List.mem_cons, List.not_mem_nil, or_false] at hx; repeat' (first | (subst hx; simp [cellsL]; done) | rcases hx with hx | hx)) | simp_all) ?_
      refine e_eff rfl (by intro cs b hc; cases hc) (by intro c hc; cases hc) ?_
      refine op_call pl160 rfl rfl ((Size_does _ _ (Nat.le_refl _) hbt _ _ ((hv'.mono hI8).mono hI10))) Parts.none ?_
      rintro _ I13 _ hI13 ⟨rfl, rfl⟩
      refine ops_nil ?_
      refine e_next rfl (side_all (by first | exact Imm.le_refl _ | exact hI13 | exact Imm.le_trans hI13 hI15) (fun _ => (by intro x hx; first | exact hx | exact List.mem_cons_of_mem _ hx | exact List.mem_append_right _ hx | (simp only [List.mem_cons, List.not_mem_nil, or_false] at hx; repeat' (first | (subst hx; simp [cellsL]; done) | rcases hx with hx | hx)) | simp_all))) ?_
      refine e_eff rfl (by intro cs b hc; cases hc) (by intro c hc; cases hc) ?_
      refine op_call pl160 rfl rfl ((Size_does _ _ (Nat.le_refl _) hbu _ _ (((hw'.mono hI8).mono hI10).mono hI13))) Parts.none ?_
      rintro _ I15 _ hI15 ⟨rfl, rfl⟩
      refine ops_nil ?_
      refine e_next rfl (side_nil (by kernel_rfl)) ?_
      refine e_eff rfl (by intro cs b hc; cases hc) (by intro c hc; cases hc) ?_
      refine op_call pl163 rfl rfl ((order_does _ _ _)) Parts.none ?_
      rintro _ J _ hJ ⟨rfl, rfl⟩
      refine ops_nil ?_
      refine e_next rfl (side_nil (by kernel_rfl)) ?_
      refine e_eff rfl (by intro cs b hc; cases hc) (by intro c hc; cases hc) ?_
      refine op_v (v_assign rfl) rfl ?_
      refine ops_nil ?_
      refine e_next rfl (side_nil (by kernel_rfl)) ?_
      refine e_done ?_
      refine post_next ?_
      refine code_ret ?_
      refine post_ret_then ?_
      refine post_ret (rs := [.tmp 4]) rfl (List.Perm.refl _) (.cons (.tmp rfl) .nil) (List.nil_sublist _) ?_
      exact ⟨by simp [outV, cmpT, T.size, he], rfl⟩
    · have he : sizeL ts = sizeL us := by simp [T.size] at hc0; omega
      refine code_skip ?_
      refine post_next ?_
      refine code_seq ?_
      refine code_seq ?_
      refine code_region ?_
      refine op_v (v_fieldB 0 Tryz.underlying48 rfl rfl fz3 rfl) rfl ?_
      refine op_v (v_loadA ty3 rfl rfl) rfl ?_
      refine op_v (v_fieldB 0 Tryz.underlying48 rfl rfl fz3 rfl) rfl ?_
      refine op_v (v_loadA ty3 rfl rfl) rfl ?_
      refine op_v (v_cmp rfl rfl rfl) rfl ?_
      refine ops_nil ?_
      refine post_next ?_
      refine code_cond rfl (fun hc1 => ?_) (fun hc1 => ?_)
      · have he1 : h ≠ g := by simpa using hc1
        refine code_seq ?_
        refine code_region ?_
        refine op_v (v_fieldB 0 Tryz.underlying48 rfl rfl fz3 rfl) rfl ?_
        refine op_v (v_loadA ty3 rfl rfl) rfl ?_
        refine op_v (v_fieldB 0 Tryz.underlying48 rfl rfl fz3 rfl) rfl ?_
        refine op_v (v_loadA ty3 rfl rfl) rfl ?_
        refine op_call pl163 rfl rfl ((order_does _ _ _)) Parts.none ?_
        rintro _ J _ hJ ⟨rfl, rfl⟩
        refine op_v (v_assign rfl) rfl ?_
        refine ops_nil ?_
        refine post_next ?_
        refine code_ret ?_
        refine post_ret_then ?_
        refine post_ret (rs := [.tmp 4]) rfl (List.Perm.refl _) (.cons (.tmp rfl) .nil) (List.nil_sublist _) ?_
        exact ⟨by simp [outV, cmpT, he, he1], rfl⟩
      · have he1 : h = g := by simpa using hc1
        refine code_skip ?_
        refine post_next ?_
        refine code_seq ?_
        refine code_seq ?_
        refine code_region ?_
        refine op_v (v_fieldB 1 Tryz.underlying48 rfl rfl fz46 rfl) rfl ?_
        refine op_v (v_loadA ty46 rfl rfl) rfl ?_
        refine op_v (v_len Tryz.underlying46 rfl) rfl ?_
        refine op_v (v_fieldB 1 Tryz.underlying48 rfl rfl fz46 rfl) rfl ?_
        refine op_v (v_loadA ty46 rfl rfl) rfl ?_
        refine op_v (v_len Tryz.underlying46 rfl) rfl ?_
        refine op_v (v_cmp rfl rfl rfl) rfl ?_
        refine ops_nil ?_
        refine post_next ?_
        refine code_cond rfl (fun hc2 => ?_) (fun hc2 => ?_)
        · have he2 : ts.length ≠ us.length := by simp at hc2; omega
          refine code_seq ?_
          refine code_region ?_
          refine op_v (v_fieldB 1 Tryz.underlying48 rfl rfl fz46 rfl) rfl ?_
          refine op_v (v_loadA ty46 rfl rfl) rfl ?_
          refine op_v (v_len Tryz.underlying46 rfl) rfl ?_
          refine op_v (v_fieldB 1 Tryz.underlying48 rfl rfl fz46 rfl) rfl ?_
          refine op_v (v_loadA ty46 rfl rfl) rfl ?_
          refine op_v (v_len Tryz.underlying46 rfl) rfl ?_
          refine op_call pl163 rfl rfl ((order_does _ _ _)) Parts.none ?_
          rintro _ J _ hJ ⟨rfl, rfl⟩
          refine op_v (v_assign rfl) rfl ?_
          refine ops_nil ?_
          refine post_next ?_
          refine code_ret ?_
          refine post_ret_then ?_
          refine post_ret (rs := [.tmp 4]) rfl (List.Perm.refl _) (.cons (.tmp rfl) .nil) (List.nil_sublist _) ?_
          exact ⟨by simp [outV, cmpT, he, he1, he2], rfl⟩
        · have he2 : ts.length = us.length := by simp at hc2; omega
          refine code_skip ?_
          refine post_next ?_
          refine code_seq ?_
          refine code_seq ?_
          refine code_region ?_
          refine op_v (v_assign rfl) rfl ?_
          refine ops_nil ?_
          refine post_next ?_
          refine code_block ?_
          refine code_loop (fun m σ' I' δ' => ∃ k : Nat, m = ts.length - k ∧ σ' = [(2, .pointer (some ⟨b2, 0, none⟩)), (3, .pointer (some ⟨b3, 0, none⟩)), (5, .int .i64 k)] ∧ I.le I' ∧ δ' = [.box b3 48 [.int .i64 g, .slice bd us.length e], .box b2 48 [.int .i64 h, .slice ad ts.length c]] ∧ cmpL ts us = cmpL (ts.drop k) (us.drop k)) ts.length [(2, .pointer (some ⟨b2, 0, none⟩)), (3, .pointer (some ⟨b3, 0, none⟩)), (5, .int .i64 (0 : Nat))] ⟨0, rfl, rfl, Imm.le_trans hI8 hI10, rfl, rfl⟩ ⟨rfl, rfl, rfl, trivial⟩ ?_
          rintro m _ I0 _ ⟨k, rfl, rfl, hI0, rfl, hp⟩
          refine code_seq ?_
          refine code_seq ?_
          refine code_region ?_
          refine op_v (v_move rfl) rfl ?_
          refine op_v (v_fieldB 1 Tryz.underlying48 rfl rfl fz46 rfl) rfl ?_
          refine op_v (v_loadA ty46 rfl rfl) rfl ?_
          refine op_v (v_len Tryz.underlying46 rfl) rfl ?_
          refine op_v (v_cmp rfl rfl rfl) rfl ?_
          refine ops_nil ?_
          refine post_next ?_
          refine code_cond rfl (fun hc3 => ?_) (fun hc3 => ?_)
          · have hlt : k < ts.length := by simpa using hc3
            have hlt2 : k < us.length := by omega
            have hs1 := (hat k hlt).isSome
            have hs2 := (hat2 k hlt2).isSome
            have hm := sizeL_mem ts k hlt
            have hm2 := sizeL_mem us k hlt2
            have hcd := cmpL_drop ts us k hlt hlt2
            refine code_skip ?_
            refine post_next ?_
            refine code_seq ?_
            refine code_block ?_
            refine code_seq ?_
            refine code_draw (.fl 0 (.fl 1 (.fl 2 (.fl 3 (.fl 4 (.fl 5 (.fl 6 (.fl 7 (.fl 8 (.fl 9 (.ef 10 (.ef 11 .done)))))))))))) (fun _ => _) mixed (by kernel_rfl) (by kernel_rfl) (fun _ => (List.Sublist.refl _)) ?_
            refine e_fl rfl rfl (fun hs_ => PF.mk rfl (v_fieldB 1 Tryz.underlying48 rfl rfl fz46 rfl) hs_) ?_
            refine e_fl rfl rfl (fun hs_ => PF.mk rfl (v_loadA ty46 rfl rfl) hs_) ?_
            refine e_fl rfl rfl (fun hs_ => PF.mk rfl (v_move rfl) hs_) ?_
            refine e_fl rfl rfl (fun hs_ => PF.mk rfl (v_indexA Tryz.underlying46 sz48 rfl rfl) hs_) ?_
            refine e_fl rfl rfl (fun hs_ => PF.mk rfl (v_loadI0 ty48 ((hat k hlt).mono hI0) rfl rfl rfl) hs_) ?_
            refine e_fl rfl rfl (fun hs_ => PF.mk rfl (v_fieldB 1 Tryz.underlying48 rfl rfl fz46 rfl) hs_) ?_
            refine e_fl rfl rfl (fun hs_ => PF.mk rfl (v_loadA ty46 rfl rfl) hs_) ?_
            refine e_fl rfl rfl (fun hs_ => PF.mk rfl (v_move rfl) hs_) ?_
            refine e_fl rfl rfl (fun hs_ => PF.mk rfl (v_indexA Tryz.underlying46 sz48 rfl rfl) hs_) ?_
            refine e_fl rfl rfl (fun hs_ => PF.mk rfl (v_loadI0 ty48 ((hat2 k hlt2).mono hI0) rfl rfl rfl) hs_) ?_
            refine e_eff rfl (by intro cs b hc; cases hc) (by intro c hc; cases hc) ?_
            refine op_call pl135 rfl rfl ((ih ts[k] us[k] (by omega) (by omega) (by omega) _ _ _ ((hsub k hlt).mono hI0) ((hsub2 k hlt2).mono hI0))) Parts.none ?_
            rintro _ I58 _ hI58 ⟨rfl, rfl⟩
            refine ops_nil ?_
            refine e_next rfl side_allA ?_
            refine e_eff rfl (by intro cs b hc; cases hc) (by intro c hc; cases hc) ?_
            refine op_v (v_assign rfl) rfl ?_
            refine ops_nil ?_
            refine e_next rfl (side_nil (by kernel_rfl)) ?_
            refine e_done ?_
            refine post_next ?_
            refine code_seq ?_
            refine code_region ?_
            refine op_v (v_move rfl) rfl ?_
            refine op_v (v_cmp rfl rfl rfl) rfl ?_
            refine ops_nil ?_
            refine post_next ?_
            refine code_cond rfl (fun hc4 => ?_) (fun hc4 => ?_)
            · have hz : cmpT ts[k] us[k] ≠ 0 := by simpa using hc4
              refine code_seq ?_
              refine code_region ?_
              refine op_v (v_move rfl) rfl ?_
              refine op_v (v_assign rfl) rfl ?_
              refine ops_nil ?_
              refine post_next ?_
              refine code_ret ?_
              refine post_ret_block ?_
              refine post_ret_then ?_
              refine post_ret_then ?_
              refine post_ret_block ?_
              refine post_ret_then ?_
              refine post_ret (rs := [.tmp 4]) rfl (List.Perm.refl _) (.cons (.tmp rfl) .nil) (List.nil_sublist _) ?_
              exact ⟨by simp [outV, cmpT, he, he1, he2, hp, hcd, hz], rfl⟩
            · have hz : cmpT ts[k] us[k] = 0 := by simpa using hc4
              refine code_skip ?_
              refine post_out ?_
              refine post_next ?_
              refine code_region ?_
              refine op_v (v_move rfl) rfl ?_
              refine op_v (v_addb rfl rfl rfl (by omega)) rfl ?_
              refine op_v (v_assign rfl) rfl ?_
              refine ops_nil ?_
              refine post_again (ts.length - (k + 1)) [(2, .pointer (some ⟨b2, 0, none⟩)), (3, .pointer (some ⟨b3, 0, none⟩)), (5, .int .i64 ((k + 1 : Nat) : Int))] (by omega) ⟨k + 1, rfl, rfl, Imm.le_trans hI0 hI58, rfl, by rw [hp, hcd]; simp [hz]⟩ ⟨rfl, rfl, rfl, trivial⟩
          · have hge : ¬ k < ts.length := by simpa using hc3
            rw [List.drop_eq_nil_of_le (by omega), List.drop_eq_nil_of_le (by omega)] at hp
            refine code_exit ?_
            refine post_exit_then ?_
            refine post_exit_then ?_
            refine post_exit ?_
            refine post_next ?_
            refine code_seq ?_
            refine code_region ?_
            refine op_v (v_assign rfl) rfl ?_
            refine ops_nil ?_
            refine post_next ?_
            refine code_ret ?_
            refine post_ret (rs := [.tmp 4]) rfl (List.Perm.refl _) (.cons (.tmp rfl) .nil) (List.nil_sublist _) ?_
            exact ⟨by simp [outV, cmpT, he, he1, he2, hp, cmpL], rfl⟩

theorem Same_does (I : Imm) (v w : Value) (t u : T) (hv : RepT I v t) (hw : RepT I w u) (hbt : t.size ≤ 1000000000) (hbu : u.size ≤ 1000000000) :
    Does Tryz.prog 108 [v, w] I [] (fun v I' δ' => v = .bool (decide (t = u)) ∧ δ' = []) := by
  have hv' := hv
  have hw' := hw
  obtain ⟨h, ts⟩ := t
  obtain ⟨g, us⟩ := u
  obtain ⟨ad, c, ss, rfl, hr, hc, hb, hat, hsub⟩ := hv.elim
  obtain ⟨bd, e, rr, rfl, hr2, hc2, hb2, hat2, hsub2⟩ := hw.elim
  refine Does.intro Tryz.func108 rfl Tryz.ntmps108 rfl fun w0 => ?_
  refine code_seq ?_
  refine code_region ?_
  refine o_box rfl rfl rfl (fun b2 => ?_)
  refine o_box rfl rfl rfl (fun b3 => ?_)
  refine op_v (v_assign rfl) rfl ?_
  refine ops_nil ?_
  refine post_next ?_
  refine code_seq ?_
  refine code_region ?_
  refine op_v (v_loadA ty48 rfl rfl) rfl ?_
  refine op_v (v_loadA ty48 rfl rfl) rfl ?_
  refine op_call pl135 rfl rfl ((Compare_does _ _ _ (Nat.le_refl _) hbt hbu _ _ _ hv' hw')) Parts.none ?_
  rintro _ I7 _ hI7 ⟨rfl, rfl⟩
  refine op_v (v_cmp rfl rfl rfl) rfl ?_
  refine op_v (v_assign rfl) rfl ?_
  refine ops_nil ?_
  refine post_next ?_
  refine code_ret ?_
  refine post_ret (rs := [.tmp 4]) rfl (List.Perm.refl _) (.cons (.tmp rfl) .nil) (List.nil_sublist _) ?_
  exact ⟨bool_b (by simp only [decide_eq_decide]; exact cmpT_eq _ _), rfl⟩
end Go.Proofs.YtdbadicpbmndbaaGreat
/- Walks: copies, places. -/
set_option linter.unusedVariables false
set_option linter.unusedSimpArgs false
/- short -/
namespace Go.Proofs.YtdbadicpbmndbaaGreat
open Go Lg

end Go.Proofs.YtdbadicpbmndbaaGreat
/- Walks: places, by definition. -/
set_option linter.unusedVariables false
set_option linter.unusedSimpArgs false
/- short -/
namespace Go.Proofs.YtdbadicpbmndbaaGreat
open Go Lg

end Go.Proofs.YtdbadicpbmndbaaGreat
/- Walks: places under others; clones. -/
set_option linter.unusedVariables false
set_option linter.unusedSimpArgs false
/- short -/
namespace Go.Proofs.YtdbadicpbmndbaaGreat
open Go Lg

theorem Clone_does (I : Imm) {ad : Option Addr} {n c : Nat} {xs : List Value} (hc : Cells I ad xs) (hl : xs.length = n * 2) (h1 : ∀ u ∈ xs, u.oneCell' = true) (hn : n ≤ 4398046511104) :
    Does Tryz.prog 150 [.slice ad n c] I [] (fun v I' δ' => ∃ ad' c', v = .slice ad' n c' ∧ δ' = [.row (.slice ad' n c') 48 2 n xs]) := by
  refine Does.intro Tryz.func150 rfl Tryz.ntmps150 rfl fun w0 => ?_
  refine code_seq ?_
  refine code_region ?_
  refine op_v (v_assign rfl) rfl ?_
  refine ops_nil ?_
  refine post_next ?_
  refine code_seq ?_
  refine code_seq ?_
  refine code_region ?_
  refine op_v (v_move rfl) rfl ?_
  refine op_v (v_nilq Tryz.underlying46 rfl rfl rfl) rfl ?_
  refine ops_nil ?_
  refine post_next ?_
  refine code_cond rfl (fun hc0 => ?_) (fun hc0 => ?_)
  · have had : ad = none := by simpa using hc0
    subst had
    have hn0 : n = 0 := by
      rcases Nat.eq_zero_or_pos n with h | h
      · exact h
      · exfalso
        have := hc 0 (xs[0]'(by omega)) (by simp)
        simp [Imm.cellO] at this
    subst hn0
    obtain rfl : xs = [] := List.eq_nil_of_length_eq_zero hl
    refine code_seq ?_
    refine code_region ?_
    refine op_v (v_assign rfl) rfl ?_
    refine ops_nil ?_
    refine post_next ?_
    refine code_ret ?_
    refine post_ret_then ?_
    refine PostJ.view (View.nilRow 48 2) (post_ret (rs := [.tmp 2]) rfl (List.Perm.refl _) (.cons (.tmp rfl) .nil) (List.Sublist.refl _) ⟨none, 0, rfl, rfl⟩)
  · refine code_skip ?_
    refine post_next ?_
    refine code_seq ?_
    refine code_region ?_
    refine o_buildSlice (xs := []) Tryz.underlying46 bs48 rfl rfl rfl rfl rfl (fun b5 => ?_)
    refine op_v (v_move rfl) rfl ?_
    refine o_append Tryz.underlying46 bs48 rfl rfl rfl (fun v' => by repeat (first | exact Swap.here | apply Swap.there)) (Src.ofI hc) hl h1 (by omega) (by omega) (fun a7 c7 => ?_)
    refine op_v (v_assign rfl) rfl ?_
    refine ops_nil ?_
    refine post_next ?_
    refine code_ret ?_
    refine post_ret (rs := [.tmp 2]) rfl (List.Perm.refl _) (.cons (.tmp rfl) .nil) (List.Sublist.refl _) ?_
    refine ⟨a7, c7, ?_, ?_⟩
    · simp [outV]
    · simp [cat]
end Go.Proofs.YtdbadicpbmndbaaGreat
/- Walks: the part at a place. -/
set_option linter.unusedVariables false
set_option linter.unusedSimpArgs false
/- short -/
namespace Go.Proofs.YtdbadicpbmndbaaGreat
open Go Lg

end Go.Proofs.YtdbadicpbmndbaaGreat
/- Walks: rows of numbers of one's own. -/
set_option linter.unusedVariables false
set_option linter.unusedSimpArgs false
/- short -/
namespace Go.Proofs.YtdbadicpbmndbaaGreat
open Go Lg

theorem Lg.Parts.three {δ δ1 δ2 δ3 : List Ent} {x y z : Ent} (h : Del δ x δ1) (k : Del δ1 y δ2) (l : Del δ2 z δ3) : Parts δ [x, y, z] δ3 := h.perm.trans (List.Perm.cons _ (Parts.two k l))

theorem RInts.of {I : Imm} {ad : Option Addr} {n c : Nat} {xs : List Int} (hn : n = xs.length) (hc : n ≤ c) (hb : n ≤ 17592186044416) (hat : Cells I ad (xs.map (Value.int .i64))) (hr : ∀ x ∈ xs, InR x) : RInts I (.slice ad n c) xs := by
  subst hn
  exact ⟨ad, c, xs, hc, hb, hat, hr⟩
theorem RInts.len {I : Imm} {v : Value} {xs : List Int} (h : RInts I v xs) : xs.length ≤ 17592186044416 ∧ ∀ x ∈ xs, InR x := by
  obtain ⟨ad, c, xs, hc, hb, hat, hr⟩ := h
  exact ⟨hb, hr⟩

theorem RInts.shape {I : Imm} {v : Value} {xs : List Int} (h : RInts I v xs) : ∃ ad c, v = .slice ad xs.length c := by
  obtain ⟨ad, c, xs, _, _, _, _⟩ := h
  exact ⟨ad, c, rfl⟩

theorem RInts.atI {I : Imm} {a : Option Addr} {n c : Nat} {xs : List Int} (h : RInts I (.slice a n c) xs) (i : Nat) (hi : i < xs.length) : At I a (i * 1) [.int .i64 xs[i]] := by
  generalize e : Value.slice a n c = v at h
  obtain ⟨ad, c', xs, hc, hb, hat, hr⟩ := h
  cases e
  exact ints_at hat i hi
/-- rows of rows of numbers -/
def RowP (I : Imm) (xs : List Value) (ps : List (List Int)) : Prop := xs.length = ps.length ∧ ∀ i (h : i < ps.length), ∃ v, xs[i]? = some v ∧ RInts I v ps[i]
theorem RowP.nil (I : Imm) : RowP I [] [] := ⟨rfl, fun i h => by simp at h⟩
theorem RowP.mono {I J : Imm} {xs : List Value} {ps : List (List Int)} (h : RowP I xs ps) (hl : I.le J) : RowP J xs ps :=
  ⟨h.1, fun i hi => let ⟨v, h1, h2⟩ := h.2 i hi; ⟨v, h1, h2.mono hl⟩⟩
theorem RowP.one {I : Imm} {xs : List Value} {ps : List (List Int)} (h : RowP I xs ps) : ∀ u ∈ xs, u.oneCell' = true := by
  intro u hu
  obtain ⟨i, hi, rfl⟩ := List.getElem_of_mem hu
  obtain ⟨v, h1, h2⟩ := h.2 i (by rw [← h.1]; exact hi)
  rw [List.getElem?_eq_getElem hi] at h1
  have e : xs[i] = v := by simpa using h1
  show xs[i].oneCell' = true
  rw [e]
  generalize ps[i]'(by rw [← h.1]; exact hi) = p at h2
  obtain ⟨ad, c, xs, _, _, _, _⟩ := h2
  rfl
inductive RPs (I : Imm) : Value → List (List Int) → Prop
  | mk (ad : Option Addr) (c : Nat) (xs : List Value) (ps : List (List Int)) (hc : ps.length ≤ c) (hb : ps.length ≤ 4398046511104) (hat : Cells I ad xs) (hr : RowP I xs ps) : RPs I (.slice ad ps.length c) ps
theorem RPs.of {I : Imm} {ad : Option Addr} {n c : Nat} {xs : List Value} {ps : List (List Int)} (hn : n = ps.length) (hc : n ≤ c) (hb : n ≤ 4398046511104) (hat : Cells I ad xs) (hr : RowP I xs ps) : RPs I (.slice ad n c) ps := by
  subst hn
  exact ⟨ad, c, xs, ps, hc, hb, hat, hr⟩
theorem RPs.mono {I J : Imm} {v : Value} {ps : List (List Int)} (h : RPs I v ps) (hl : I.le J) : RPs J v ps := by
  obtain ⟨ad, c, xs, ps, hc, hb, hat, hr⟩ := h
  exact ⟨ad, c, xs, ps, hc, hb, hat.mono hl, hr.mono hl⟩
theorem RPs.get {I : Imm} {ad : Option Addr} {xs : List Value} {ps : List (List Int)} (hat : Cells I ad xs) (hr : RowP I xs ps) (i : Nat) (h : i < ps.length) :
    ∃ (ed : Option Addr) (ec : Nat), At I ad (i * 1) [.slice ed ps[i].length ec] ∧ RInts I (.slice ed ps[i].length ec) ps[i] := by
  obtain ⟨v, h1, h2⟩ := hr.2 i h
  generalize he : ps[i] = p at h2
  obtain ⟨ad', c, p, _, _, _, _⟩ := h2
  refine ⟨ad', c, hat.at _ fun j u hj => ?_, ⟨ad', c, p, ‹_›, ‹_›, ‹_›, ‹_›⟩⟩
  rcases j with _ | j
  · simp at hj; subst hj; simpa using h1
  · simp at hj
end Go.Proofs.YtdbadicpbmndbaaGreat
/- Walks: all places of a term. -/
set_option linter.unusedVariables false
set_option linter.unusedSimpArgs false
/- short -/
namespace Go.Proofs.YtdbadicpbmndbaaGreat
open Go Lg

end Go.Proofs.YtdbadicpbmndbaaGreat
/- Walks: all places of a term, by the program. -/
set_option linter.unusedVariables false
set_option linter.unusedSimpArgs false
/- short -/
namespace Go.Proofs.YtdbadicpbmndbaaGreat
open Go Lg

end Go.Proofs.YtdbadicpbmndbaaGreat
/- Walks: another part put at a place, by definition. -/
set_option linter.unusedVariables false
set_option linter.unusedSimpArgs false
/- short -/
namespace Go.Proofs.YtdbadicpbmndbaaGreat
open Go Lg

/-- another part at a place that is there -/
def putT : T → List Int → T → T
  | _, [], u => u
  | t, x :: r, u => .mk t.head (t.args.set x.toNat (putT (t.args.getD x.toNat zeroT) r u))

theorem atT_cons {t : T} {x : Int} {r : List Int} (h : (atT t (x :: r)).isSome = true) : ∃ i : Nat, x = i ∧ ∃ hi : i < t.args.length, (atT t.args[i] r).isSome = true := by
  unfold atT at h
  by_cases hh : 0 ≤ x ∧ x.toNat < t.args.length
  · rw [dif_pos hh] at h
    obtain ⟨i, rfl⟩ := Int.eq_ofNat_of_zero_le hh.1
    exact ⟨i, rfl, hh.2, h⟩
  · rw [dif_neg hh] at h; cases h

end Go.Proofs.YtdbadicpbmndbaaGreat
/- Walks: another part put at a place, by the program. -/
set_option linter.unusedVariables false
set_option linter.unusedSimpArgs false
namespace Go.Proofs.YtdbadicpbmndbaaGreat
open Go Lg

/-! ### rows and boxes -/
theorem stL_one {cs : List Value} {o : Nat} {x v : Value} (h : cs[o]? = some x) : stL cs o [v] = some (cs.set o v) := by
  induction cs generalizing o with
  | nil => simp at h
  | cons c cs ih =>
    cases o with
    | zero => cases cs <;> simp [stL]
    | succ o => simp at h; simp [stL, ih h]
/-! ### places, from behind -/
theorem atT_c (t : T) (x : Int) (r : List Int) : atT t (x :: r) = if h : 0 ≤ x ∧ x.toNat < t.args.length then atT (t.args[x.toNat]'h.2) r else none := by simp only [atT]
theorem putT_snoc : ∀ (q : List Int) (t u w : T) (i : Nat), atT t q = some u → i < u.args.length → putT t (q ++ [(i : Int)]) w = putT t q (.mk u.head (u.args.set i w))
  | [], t, u, w, i, h, hi => by
    simp [atT] at h; subst h
    simp [putT]
  | x :: q, t, u, w, i, h, hi => by
    rw [List.cons_append]
    have h' : (atT t (x :: q)).isSome = true := by rw [h]; rfl
    obtain ⟨j, rfl, hj, _⟩ := atT_cons h'
    simp only [atT, Int.toNat_natCast] at h
    rw [dif_pos ⟨by omega, hj⟩] at h
    simp only [putT, Int.toNat_natCast]
    have e : t.args.getD j zeroT = t.args[j] := by simp [hj]
    rw [e, putT_snoc q _ u w i h hi]

/-- What is to be put into the cells at (b, off) stands at q. -/
def Hole (t : T) (q : List Int) (b0 b off : Nat) (cs : List Value) (I : Imm) : Prop :=
  ∀ (J : Imm) (w : T) (wd : Option Addr) (wc : Nat), I.le J → J b = some (.cells ((cs.set off (.int .i64 w.head)).set (off + 1) (.slice wd w.args.length wc)).toArray 48 (0, 0)) → RepT J (.agg #[.int .i64 w.head, .slice wd w.args.length wc]) w →
    ∃ v0 v1, J b0 = some (.cells #[v0, v1] 48 (0, 0)) ∧ RepT J (.agg #[v0, v1]) (putT t q w)
theorem Hole.mono {t : T} {q : List Int} {b0 b off : Nat} {cs : List Value} {I J : Imm} (h : Hole t q b0 b off cs I) (hl : I.le J) : Hole t q b0 b off cs J :=
  fun K w wd wc hk hb hr => h K w wd wc (Imm.le_trans hl hk) hb hr
theorem RowT.set {I : Imm} {xs : List Value} {ts : List T} {w : T} {wd : Option Addr} {wc i : Nat} (h : RowT I xs ts) (hr : RepT I (.agg #[.int .i64 w.head, .slice wd w.args.length wc]) w) (hi : i < ts.length) :
    RowT I ((xs.set (i * 2) (.int .i64 w.head)).set (i * 2 + 1) (.slice wd w.args.length wc)) (ts.set i w) := by
  refine ⟨by simp [h.1], fun j hj => ?_⟩
  have hj' : j < ts.length := by simpa using hj
  obtain ⟨s, h1, h2, h3⟩ := h.2 j hj'
  by_cases e : i = j
  · subst e
    have e1 : (ts.set i w)[i] = w := by simp
    rw [e1]
    exact ⟨(wd, wc), by rw [List.getElem?_set_ne (by omega), List.getElem?_set_self (by rw [h.1]; omega)], by rw [List.getElem?_set_self (by simp [h.1]; omega)], hr⟩
  · have e1 : (ts.set i w)[j] = ts[j] := by simp [List.getElem_set_ne e]
    rw [e1]
    exact ⟨s, by rw [List.getElem?_set_ne (by omega), List.getElem?_set_ne (by omega)]; exact h1, by rw [List.getElem?_set_ne (by omega), List.getElem?_set_ne (by omega)]; exact h2, h3⟩

theorem cells_of {J : Imm} {g : Nat} {e : TypeId} {cs : List Value} (h : J g = some (.cells cs.toArray e (0, 0))) (n : Nat) : Cells J (some ⟨g, 0, none⟩) (cs.take n) := fun j v hj => by
  have hadd : (⟨g, 0, none⟩ : Addr).add j = ⟨g, j, none⟩ := by rw [add_plain]; simp
  simp only [Option.map_some, Imm.cellO, Imm.cell, hadd, h]
  rw [List.getElem?_take] at hj
  split at hj
  · simpa using hj
  · cases hj

theorem Hole.step {t u : T} {q : List Int} {b0 b off g n cap i : Nat} {cs cs3 xs : List Value} {I J : Imm} (h : Hole t q b0 b off cs I) (hl : I.le J) (hat : atT t q = some u) (hn : u.args.length = n)
    (hb : J b = some (.cells (cs.set (off + 1) (.slice (some ⟨g, 0, none⟩) n cap)).toArray 48 (0, 0))) (hc0 : cs[off]? = some (.int .i64 u.head)) (hr : InR u.head) (hnc : n ≤ cap) (hnb : n ≤ 4398046511104)
    (htk : cs3.take (n * 2) = xs) (hrow : RowT J xs u.args) (hi : i < n) : Hole t (q ++ [(i : Int)]) b0 g (i * 2) cs3 J := by
  intro K w wd wc hk hg hw
  have hset : cs.set off (.int .i64 u.head) = cs := by
    obtain ⟨hlt, he⟩ := List.getElem?_eq_some_iff.1 hc0
    rw [← he, List.set_getElem_self]
  have hcells := cells_of hg (n * 2)
  rw [List.take_set, List.take_set, htk] at hcells
  have hrow' := (hrow.mono hk).set hw (i := i) (by omega)
  have hlen : (T.mk u.head (u.args.set i w)).args.length = n := by
    show (u.args.set i w).length = n
    simp [hn]
  obtain ⟨v0, v1, h1, h2⟩ := h K (.mk u.head (u.args.set i w)) (some ⟨g, 0, none⟩) cap (Imm.le_trans hl hk) (by
    rw [hlen]
    show K b = some (.cells ((cs.set off (.int .i64 u.head)).set (off + 1) _).toArray _ _)
    rw [hset]
    exact hk _ _ hb) (RowT.rep (h := u.head) (c := cap) (ts := u.args.set i w) hcells hrow' hr (by simp [hn]; exact hnc) (by simp [hn]; exact hnb))
  refine ⟨v0, v1, h1, ?_⟩
  rw [putT_snoc q t u w i hat (by omega)]
  exact h2
end Go.Proofs.YtdbadicpbmndbaaGreat
/- Walks: another part put at a place, by the program. -/
set_option linter.unusedVariables false
set_option linter.unusedSimpArgs false
/- short -/
namespace Go.Proofs.YtdbadicpbmndbaaGreat
open Go Lg

end Go.Proofs.YtdbadicpbmndbaaGreat
/- Walks: the document's example on places. -/
set_option linter.unusedVariables false
set_option linter.unusedSimpArgs false
/- short -/
namespace Go.Proofs.YtdbadicpbmndbaaGreat
open Go Lg

theorem Fun_does {I : Imm} {h : Int} {s : Value} {ts : List T} (hh : InR h) (hs : RepS I s ts) :
    Does Tryz.prog 37 [.int .i64 h, s] I [] (fun v I' δ' => RepT I' v (.mk h ts) ∧ δ' = []) := by
  have hs' := hs
  obtain ⟨ad, c, ss, ts, hc, hb, hat, hr, hsub⟩ := hs
  refine Does.intro Tryz.func37 rfl Tryz.ntmps37 rfl fun w0 => ?_
  refine code_seq ?_
  refine code_region ?_
  refine o_alloc z48 rfl rfl (fun b4 => ?_)
  refine ops_nil ?_
  refine post_next ?_
  refine code_seq ?_
  refine code_region ?_
  refine op_v (v_move rfl) rfl ?_
  refine op_v (v_move rfl) rfl ?_
  refine op_v (v_build bl48 rfl rfl) rfl ?_
  refine o_store ty48 rfl rfl rfl rfl rfl (by repeat (first | exact Swap.here | apply Swap.there)) rfl ?_
  refine ops_nil ?_
  refine post_next ?_
  refine code_ret ?_
  refine post_ret (rs := [.cell 4 48]) rfl (List.Perm.refl _) (.cons (.cell rfl ty48 (by repeat (first | exact Has.here | apply Has.there)) rfl) .nil) (List.nil_sublist _) ?_
  exact ⟨RepT.mk _ (.mk h ts) hh hs', rfl⟩
theorem Var_does {I : Imm} {n : Int} (h0 : 0 ≤ n) (h1 : n ≤ 1000000000) :
    Does Tryz.prog 59 [.int .i64 n] I [] (fun v I' δ' => RepT I' v (.mk (-1 - n) []) ∧ δ' = []) := by
  refine Does.intro Tryz.func59 rfl Tryz.ntmps59 rfl fun w0 => ?_
  refine code_seq ?_
  refine code_region ?_
  refine o_alloc z48 rfl rfl (fun b2 => ?_)
  refine ops_nil ?_
  refine post_next ?_
  refine code_seq ?_
  refine code_region ?_
  refine op_v (v_move rfl) rfl ?_
  refine op_v (v_subb rfl rfl rfl (by omega)) rfl ?_
  refine op_v (v_build bl48 rfl rfl) rfl ?_
  refine o_store ty48 rfl rfl rfl rfl rfl (by repeat (first | exact Swap.here | apply Swap.there)) rfl ?_
  refine ops_nil ?_
  refine post_next ?_
  refine code_ret ?_
  refine post_ret (rs := [.cell 2 48]) rfl (List.Perm.refl _) (.cons (.cell rfl ty48 (by repeat (first | exact Has.here | apply Has.there)) rfl) .nil) (List.nil_sublist _) ?_
  exact ⟨RepT.mk _ (.mk (-1 - n) []) (by unfold InR; simp [T.head]; omega) (RepS.nil _), rfl⟩
theorem RowT.repS {I : Imm} {ad : Option Addr} {n c : Nat} {xs : List Value} {ts : List T} (hn : n = ts.length) (hc : Cells I ad xs) (hr : RowT I xs ts) (hle : n ≤ c) (hb : n ≤ 4398046511104) : RepS I (.slice ad n c) ts := by
  subst hn
  exact RepT.args (RowT.rep (h := 0) hc hr (by unfold InR; omega) hle hb)
theorem RInts.lit {I : Imm} {ad : Option Addr} {n c : Nat} {xs : List Int} (hat : Cells I ad (xs.map (Value.int .i64))) (hc : n ≤ c) (hr : xs.all (fun x => decide (0 ≤ x ∧ x ≤ 1000)) = true) (hn : n = xs.length := by rfl) (hb : n ≤ 17592186044416 := by decide) : RInts I (.slice ad n c) xs :=
  RInts.of hn hc hb hat (fun x hx => by have := List.all_eq_true.1 hr x hx; simp at this; unfold InR; omega)

end Go.Proofs.YtdbadicpbmndbaaGreat
/- Walks: variables and rightness of a term, by the program. -/
set_option linter.unusedVariables false
set_option linter.unusedSimpArgs false
/- short -/
namespace Go.Proofs.YtdbadicpbmndbaaGreat
open Go Lg

def varsP (l : List (Nat × T)) : List Int := l.foldl (fun acc x => if 0 ≤ -1 - x.2.head ∧ -1 - x.2.head ∉ acc then acc ++ [-1 - x.2.head] else acc) []
theorem varsP_snoc (l : List (Nat × T)) (x : Nat × T) : varsP (l ++ [x]) = if 0 ≤ -1 - x.2.head ∧ -1 - x.2.head ∉ varsP l then varsP l ++ [-1 - x.2.head] else varsP l := by simp [varsP]
theorem varsP_len (l : List (Nat × T)) : (varsP l).length ≤ l.length := by
  have key : ∀ (l : List (Nat × T)) (acc : List Int), (l.foldl (fun acc x => if 0 ≤ -1 - x.2.head ∧ -1 - x.2.head ∉ acc then acc ++ [-1 - x.2.head] else acc) acc).length ≤ acc.length + l.length := fun l => by
    induction l with
    | nil => intro acc; simp
    | cons x r ih =>
      intro acc
      rw [List.foldl_cons]
      split
      · have := ih (acc ++ [-1 - x.2.head]); simp at this ⊢; omega
      · have := ih acc; simp at this ⊢; omega
  have := key l []
  simpa [varsP] using this
theorem varsP_in (l : List (Nat × T)) : (∀ x ∈ l, InR x.2.head) → ∀ n ∈ varsP l, InR n := by
  have key : ∀ (l : List (Nat × T)) (acc : List Int), (∀ x ∈ l, InR x.2.head) → (∀ n ∈ acc, InR n) → ∀ n ∈ l.foldl (fun acc x => if 0 ≤ -1 - x.2.head ∧ -1 - x.2.head ∉ acc then acc ++ [-1 - x.2.head] else acc) acc, InR n := fun l => by
    induction l with
    | nil => intro acc _ h; simpa using h
    | cons x r ih =>
      intro acc hl h
      rw [List.foldl_cons]
      refine ih _ (fun y hy => hl y (List.mem_cons_of_mem _ hy)) ?_
      split
      · intro n hn
        rcases List.mem_append.1 hn with hn | hn
        · exact h n hn
        · rw [List.mem_singleton] at hn
          have := hl x (List.mem_cons_self ..)
          unfold InR at *; omega
      · exact h
  intro h
  exact key l [] h (fun n hn => by cases hn)

theorem TVars_does {I : Imm} {v : Value} {t : T} (hv : RepT I v t) (hbig : t.size ≤ 1000000000) :
    Does Tryz.prog 51 [v] I [] (fun v I' δ' => RInts I' v (varsP (partsT 1 t)) ∧ δ' = []) := by
  obtain ⟨ad, c, rfl, hr0⟩ := hv.shape
  refine Does.intro Tryz.func51 rfl Tryz.ntmps51 rfl fun w0 => ?_
  refine code_seq ?_
  refine code_region ?_
  refine o_box rfl rfl rfl (fun b1 => ?_)
  refine op_v (v_assign rfl) rfl ?_
  refine ops_nil ?_
  refine post_next ?_
  refine code_seq ?_
  refine code_region ?_
  refine o_alloc z30 rfl rfl (fun b3 => ?_)
  refine ops_nil ?_
  refine post_next ?_
  refine code_seq ?_
  refine code_seq ?_
  refine code_region ?_
  refine op_v (v_loadA ty48 rfl rfl) rfl ?_
  refine op_call pl94 rfl rfl ((parts_does)) Parts.none ?_
  rintro v8 I8 _ hI8 ⟨b8, rfl, rfl⟩
  refine ops_nil ?_
  refine post_next ?_
  refine code_block ?_
  refine CodeJ.view ((View.nilRow 3 1).trans (View.perm (List.perm_append_comm (l₁ := [_]) (l₂ := [_, _, _])))) ?_
  refine code_range (δb := [_, _]) (B := fun l I' δ' => (∀ x ∈ l, InR x.2.head) ∧ ∃ (ar : Option Addr) (cr : Nat), δ' = [.box b3 30 [.slice ar (varsP l).length cr], iRow ar cr (varsP l)]) rfl rfl pl130 rfl (parts_iter (hv.mono hI8) hbig) (List.Perm.cons _ (List.Perm.cons _ (List.Perm.swap _ _ _))) ⟨by simp, none, 0, rfl⟩ (by rintro _ _ _ ⟨_, _, rfl, _⟩; rfl) (by rintro l I1 I2 _ hle h; exact h) ?_ ?_
  · rintro l r w1 pre x post I2 _ _ hrs hrp hx hI2 ⟨hin, ar, cr, rfl⟩ ⟨xa, xc, rfl, hxv⟩
    obtain ⟨_, _, hxs, hxr⟩ := hxv.shape
    have hpl := congrArg List.length hx
    simp only [partsT_length, List.length_append, List.length_cons] at hpl
    have hvl := varsP_len pre
    have hin2 : ∀ y ∈ pre ++ [x], InR y.2.head := by intro y hy; rcases List.mem_append.1 hy with hy | hy; (exact hin y hy); (rw [List.mem_singleton] at hy; subst hy; exact hxr)
    have hxr2 := hxr
    unfold InR at hxr2
    refine code_region ?_
    refine o_alloc z48 rfl rfl (fun b5 => ?_)
    refine o_store ty48 rfl rfl rfl rfl rfl (by repeat (first | exact Swap.here | apply Swap.there)) rfl ?_
    refine ops_nil ?_
    refine post_begin hrs (Swap.there Swap.here) ?_
    refine code_block ?_
    refine code_seq ?_
    refine code_region ?_
    refine op_v (v_fieldB 0 Tryz.underlying48 rfl rfl fz3 rfl) rfl ?_
    refine op_v (v_loadA ty3 rfl rfl) rfl ?_
    refine op_v (v_subb rfl rfl rfl (by omega)) rfl ?_
    refine op_v (v_assign rfl) rfl ?_
    refine ops_nil ?_
    refine post_next ?_
    refine code_seq ?_
    refine code_region ?_
    refine op_v (v_move rfl) rfl ?_
    by_cases h0 : 0 ≤ -1 - x.2.head
    · refine op_v (v_cmptA rfl rfl rfl) rfl ?_
      refine op_v (v_move rfl) rfl ?_
      refine op_want rfl rfl ?_
      refine op_v (v_loadA ty30 rfl rfl) rfl ?_
      refine op_want rfl rfl ?_
      refine op_v (v_move rfl) rfl ?_
      refine op_want rfl rfl ?_
      refine op_call pl34 rfl rfl ((Contains_does (by omega))) (Parts.one (Del.there (Del.there (Del.there Del.here)))) ?_
      rintro v19 I19 _ hI19 ⟨rfl, rfl⟩
      by_cases hm : -1 - x.2.head ∈ varsP pre
      · rw [show decide (-1 - x.2.head ∈ varsP pre) = true by simpa using hm]
        refine op_want rfl rfl ?_
        refine op_v (v_not rfl) rfl ?_
        refine op_v (v_pickt rfl rfl) rfl ?_
        refine ops_nil ?_
        refine post_next ?_
        refine code_cond_f rfl ?_
        refine code_skip ?_
        refine post_out ?_
        refine PostJ.view ((View.drop (Del.there Del.here)).trans (View.perm (List.perm_append_comm (l₁ := [_]) (l₂ := [_, _])))) ?_
        refine post_round Swap.here hrs hrp ⟨rfl, _, rfl, hin2, ar, cr, ?_⟩
        rw [varsP_snoc, if_neg (fun hh => hh.2 hm)]
        rfl
      · rw [show decide (-1 - x.2.head ∈ varsP pre) = false by simpa using hm]
        refine op_want rfl rfl ?_
        refine op_v (v_not rfl) rfl ?_
        refine op_v (v_pickt rfl rfl) rfl ?_
        refine ops_nil ?_
        refine post_next ?_
        refine code_cond_t rfl ?_
        refine code_region ?_
        refine op_v (v_loadA ty30 rfl rfl) rfl ?_
        refine op_v (v_move rfl) rfl ?_
        refine o_buildSlice (xs := [(Go.Operand.tmp 23)]) Tryz.underlying30 bs3 rfl rfl rfl rfl rfl (fun b24 => ?_)
        refine o_append Tryz.underlying30 bs3 rfl rfl rfl (fun v' => by repeat (first | exact Swap.here | apply Swap.there)) (Src.ofRow (by repeat (first | exact Has.here | apply Has.there)) rfl) (by first | rfl | omega | simp) (by simp [cat, cellsL, Value.oneCell']) (by omega) (by omega) (fun a25 c25 => ?_)
        refine o_store ty30 rfl rfl rfl rfl rfl (by repeat (first | exact Swap.here | apply Swap.there)) rfl ?_
        refine ops_nil ?_
        refine post_out ?_
        refine PostJ.view ((View.drop Del.here).trans ((View.drop (Del.there Del.here)).trans (View.perm (List.perm_append_comm (l₁ := [_]) (l₂ := [_, _]))))) ?_
        refine post_round Swap.here hrs hrp ⟨rfl, _, rfl, hin2, a25, c25, ?_⟩
        rw [varsP_snoc, if_pos ⟨h0, hm⟩]
        simp [iRow, cat, cellsL]
    · refine op_v (v_cmpfA rfl rfl rfl) rfl ?_
      refine op_v (v_move rfl) rfl ?_
      refine op_skip rfl rfl (by simp [undef]) rfl ?_
      refine op_skip rfl rfl (by simp [undef]) rfl ?_
      refine op_skip rfl rfl (by simp [undef]) rfl ?_
      refine op_skip rfl rfl (by simp [undef]) rfl ?_
      refine op_v (v_pickf rfl rfl) rfl ?_
      refine ops_nil ?_
      refine post_next ?_
      refine code_cond_f rfl ?_
      refine code_skip ?_
      refine post_out ?_
      refine PostJ.view (View.drop Del.here) ?_
      refine post_round Swap.here hrs hrp ⟨rfl, _, rfl, hin2, ar, cr, ?_⟩
      rw [varsP_snoc, if_neg (fun hh => h0 hh.1)]
  · rintro blk I3 _ hI3 ⟨hin, ar, cr, rfl⟩
    refine post_out ?_
    refine post_next ?_
    refine code_seq ?_
    refine code_region ?_
    refine op_v (v_loadA ty30 rfl rfl) rfl ?_
    refine OpsJ.freezeRow (Del.there (Del.there (Del.there Del.here))) ?_
    rintro I26 ar' cr' hI26 hvr hcr hlr hcells
    cases hvr
    have hvl := varsP_len (partsT 1 t)
    rw [partsT_length] at hvl
    refine op_v (v_assign rfl) rfl ?_
    refine ops_nil ?_
    refine post_next ?_
    refine code_ret ?_
    refine post_ret (rs := [.tmp 2]) rfl (List.Perm.refl _) (.cons (.tmp rfl) .nil) (List.nil_sublist _) ?_
    exact ⟨RInts.of rfl hcr (by omega) hcells (varsP_in _ hin), rfl⟩

def badN (x : Nat × T) : Bool := (decide (x.2.head < 0) && decide (0 < x.2.args.length)) || decide (x.2.head < -256) || decide (1023 < x.2.head) || decide (8 < x.2.args.length)
def chkT (t : T) : Int := if 400 < t.size then 2 else if 40 < depT t then 7 else if (partsT 1 t).any badN then 1 else 0
theorem TCheck_does {I : Imm} {v : Value} {t : T} (hv : RepT I v t) (hbig : t.size ≤ 1000000000) :
    Does Tryz.prog 49 [v] I [] (fun v I' δ' => v = .int .i64 (chkT t) ∧ δ' = []) := by
  obtain ⟨ad, c, rfl, hr0⟩ := hv.shape
  refine Does.intro Tryz.func49 rfl Tryz.ntmps49 rfl fun w0 => ?_
  refine code_seq ?_
  refine code_region ?_
  refine o_box rfl rfl rfl (fun b1 => ?_)
  refine op_v (v_assign rfl) rfl ?_
  refine ops_nil ?_
  refine post_next ?_
  refine code_seq ?_
  refine code_region ?_
  refine o_alloc z3 rfl rfl (fun b3 => ?_)
  refine o_alloc z3 rfl rfl (fun b4 => ?_)
  refine o_alloc z4 rfl rfl (fun b5 => ?_)
  refine o_store ty3 rfl rfl rfl rfl rfl (by repeat (first | exact Swap.here | apply Swap.there)) rfl ?_
  refine o_store ty3 rfl rfl rfl rfl rfl (by repeat (first | exact Swap.here | apply Swap.there)) rfl ?_
  refine o_store ty4 rfl rfl rfl rfl rfl (by repeat (first | exact Swap.here | apply Swap.there)) rfl ?_
  refine ops_nil ?_
  refine post_next ?_
  refine code_seq ?_
  refine code_seq ?_
  refine code_region ?_
  refine op_v (v_loadA ty48 rfl rfl) rfl ?_
  refine op_call pl94 rfl rfl ((parts_does)) Parts.none ?_
  rintro v9 I9 _ hI9 ⟨b9, rfl, rfl⟩
  refine ops_nil ?_
  refine post_next ?_
  refine code_block ?_
  refine code_range (δb := [_, _, _]) (B := fun l I' δ' => δ' = [.box b5 4 [.bool (l.any badN)], .box b4 3 [.int .i64 (deepP l)], .box b3 3 [.int .i64 l.length]]) rfl rfl pl130 rfl (parts_iter (hv.mono hI9) hbig) (List.Perm.refl _) rfl (by rintro _ _ _ ⟨_, _, rfl, _⟩; rfl) (by rintro l I1 I2 _ hle rfl; rfl) ?_ ?_
  · rintro l r w1 pre x post I2 _ _ hrs hrp hx hI2 rfl ⟨xa, xc, rfl, hxv⟩
    have hpl := congrArg List.length hx
    simp only [partsT_length, List.length_append, List.length_cons] at hpl
    have hlen : ((pre ++ [x]).length : Int) = (pre.length : Int) + 1 := by simp
    have hdp : ((deepP (pre ++ [x]) : Nat) : Int) = max ((deepP pre : Nat) : Int) (x.1 : Int) := by rw [deepP_snoc]; omega
    have hany : (pre ++ [x]).any badN = (pre.any badN || badN x) := by simp
    refine code_seq ?_
    refine code_region ?_
    refine op_v (v_assign rfl) rfl ?_
    refine ops_nil ?_
    refine post_next ?_
    refine code_region ?_
    refine o_alloc z48 rfl rfl (fun b7 => ?_)
    refine o_store ty48 rfl rfl rfl rfl rfl (by repeat (first | exact Swap.here | apply Swap.there)) rfl ?_
    refine ops_nil ?_
    refine post_begin hrs (Swap.there Swap.here) ?_
    refine code_block ?_
    refine code_seq ?_
    refine code_draw (.fl 0 (.fl 1 (.fl 2 (.fl 3 (.fl 4 (.ef 5 (.ef 6 .done))))))) (two 2 [.box b3 3 [.int .i64 pre.length]] [.box b4 3 [.int .i64 (deepP pre)]]) mixed (by kernel_rfl) (by kernel_rfl) (two_sub (List.Sublist.cons _ (List.Sublist.cons _ (List.Sublist.cons _ (List.Sublist.cons _ (List.Sublist.refl _))))) (List.Sublist.cons _ (List.Sublist.cons _ (List.Sublist.cons _ (List.Sublist.cons_cons _ (List.nil_sublist _)))))) ?_
    refine e_float rfl rfl (fun hs_ => PF.mk rfl (v_loadA ty3 rfl rfl) hs_) Imm.leA (by intro x hx; change x ∈ [_] at hx; rw [List.mem_singleton] at hx; subst hx; simp) ?_
    refine e_float rfl rfl (fun hs_ => PF.mk rfl (v_addb rfl rfl rfl (by omega)) hs_) Imm.leA (by intro x hx; change x ∈ [_] at hx; rw [List.mem_singleton] at hx; subst hx; simp) ?_
    refine e_float rfl rfl (fun hs_ => PF.mk rfl (v_loadA ty3 rfl rfl) hs_) Imm.leA (by intro x hx; change x ∈ [_] at hx; rw [List.mem_singleton] at hx; subst hx; simp) ?_
    refine e_float rfl rfl (fun hs_ => PF.mk rfl (v_move rfl) hs_) Imm.leA (by intro x hx; change x ∈ [_] at hx; rw [List.mem_singleton] at hx; subst hx; simp) ?_
    refine e_float rfl rfl (fun hs_ => PF.mk rfl (v_max rfl rfl) hs_) Imm.leA (by intro x hx; change x ∈ [_] at hx; rw [List.mem_singleton] at hx; subst hx; simp) ?_
    refine e_eff rfl (by intro cs b hc; cases hc) (by intro c hc; cases hc) ?_
    refine o_store ty3 rfl rfl rfl rfl rfl (by repeat (first | exact Swap.here | apply Swap.there)) rfl ?_
    refine ops_nil ?_
    refine e_next_ (side_two (by kernel_rfl) (Imm.le_refl _) (by intro x hx; rw [List.mem_singleton] at hx; subst hx; simp)) ?_
    refine e_eff rfl (by intro cs b hc; cases hc) (by intro c hc; cases hc) ?_
    refine o_store ty3 rfl rfl rfl rfl rfl (by repeat (first | exact Swap.here | apply Swap.there)) rfl ?_
    refine ops_nil ?_
    refine e_next_ (side_nil (by kernel_rfl)) ?_
    refine e_done ?_
    refine post_next ?_
    refine code_region ?_
    refine op_v (v_loadA ty4 rfl rfl) rfl ?_
    by_cases hw : pre.any badN = true
    · rw [hw]
      refine op_v (v_move rfl) rfl ?_
      refine op_skip rfl rfl (by simp [undef]) rfl ?_
      refine op_skip rfl rfl (by simp [undef]) rfl ?_
      refine op_skip rfl rfl (by simp [undef]) rfl ?_
      refine op_skip rfl rfl (by simp [undef]) rfl ?_
      refine op_skip rfl rfl (by simp [undef]) rfl ?_
      refine op_skip rfl rfl (by simp [undef]) rfl ?_
      refine op_skip rfl rfl (by simp [undef]) rfl ?_
      refine op_skip rfl rfl (by simp [undef]) rfl ?_
      refine op_skip rfl rfl (by simp [undef]) rfl ?_
      refine op_v (v_pickt rfl rfl) rfl ?_
      refine op_v (v_move rfl) rfl ?_
      refine op_skip rfl rfl (by simp [undef]) rfl ?_
      refine op_skip rfl rfl (by simp [undef]) rfl ?_
      refine op_skip rfl rfl (by simp [undef]) rfl ?_
      refine op_v (v_pickt rfl rfl) rfl ?_
      refine op_v (v_move rfl) rfl ?_
      refine op_skip rfl rfl (by simp [undef]) rfl ?_
      refine op_skip rfl rfl (by simp [undef]) rfl ?_
      refine op_skip rfl rfl (by simp [undef]) rfl ?_
      refine op_v (v_pickt rfl rfl) rfl ?_
      refine op_v (v_move rfl) rfl ?_
      refine op_skip rfl rfl (by simp [undef]) rfl ?_
      refine op_skip rfl rfl (by simp [undef]) rfl ?_
      refine op_skip rfl rfl (by simp [undef]) rfl ?_
      refine op_skip rfl rfl (by simp [undef]) rfl ?_
      refine op_v (v_pickt rfl rfl) rfl ?_
      refine o_store ty4 rfl rfl rfl rfl rfl (by repeat (first | exact Swap.here | apply Swap.there)) rfl ?_
      refine ops_nil ?_
      refine post_out ?_
      refine PostJ.view (View.drop Del.here) ?_
      refine post_round Swap.here hrs hrp ⟨rfl, _, rfl, ?_⟩
      rw [hlen, hdp, hany]
      refine congrArg (fun q => [Ent.box b5 4 [.bool q], .box b4 3 [.int .i64 (max ((deepP pre : Nat) : Int) (x.1 : Int))], .box b3 3 [.int .i64 ((pre.length : Int) + 1)]]) (?_ : _ = (pre.any badN || badN x))
      clear hx hdp hany hlen hpl hv hxv hI9 hI2 hrs hrp
      rw [show pre.any badN = _ by assumption]
      simp [badN, *]
    · have hw' : pre.any badN = false := by simpa using hw
      rw [hw']
      refine op_v (v_move rfl) rfl ?_
      first
        | (refine op_want rfl rfl ?_
           refine op_v (v_fieldB 0 Tryz.underlying48 rfl rfl fz3 rfl) rfl ?_)
        | (refine op_skip rfl rfl (by simp [undef]) rfl ?_)
      refine op_want rfl rfl ?_
      refine op_v (v_loadA ty3 rfl rfl) rfl ?_
      by_cases h1 : x.2.head < 0
      · first
          | (refine op_want rfl rfl ?_
             refine op_v (v_cmptA rfl rfl rfl) rfl ?_)
          | (refine op_skip rfl rfl (by simp [undef]) rfl ?_)
        refine op_want rfl rfl ?_
        refine op_v (v_move rfl) rfl ?_
        first
          | (refine op_want rfl rfl ?_
             refine op_v (v_fieldB 1 Tryz.underlying48 rfl rfl fz46 rfl) rfl ?_)
          | (refine op_skip rfl rfl (by simp [undef]) rfl ?_)
        refine op_want rfl rfl ?_
        refine op_v (v_loadA ty46 rfl rfl) rfl ?_
        refine op_want rfl rfl ?_
        refine op_v (v_len Tryz.underlying46 rfl) rfl ?_
        by_cases h2 : 0 < x.2.args.length
        · first
            | (refine op_want rfl rfl ?_
               refine op_v (v_cmptA rfl rfl rfl) rfl ?_)
            | (refine op_skip rfl rfl (by simp [undef]) rfl ?_)
          first
            | (refine op_want rfl rfl ?_
               refine op_v (v_pickt rfl rfl) rfl ?_)
            | (refine op_skip rfl rfl (by simp [undef]) rfl ?_)
          refine op_v (v_pickf rfl rfl) rfl ?_
          refine op_v (v_move rfl) rfl ?_
          refine op_skip rfl rfl (by simp [undef]) rfl ?_
          refine op_skip rfl rfl (by simp [undef]) rfl ?_
          refine op_skip rfl rfl (by simp [undef]) rfl ?_
          refine op_v (v_pickt rfl rfl) rfl ?_
          refine op_v (v_move rfl) rfl ?_
          refine op_skip rfl rfl (by simp [undef]) rfl ?_
          refine op_skip rfl rfl (by simp [undef]) rfl ?_
          refine op_skip rfl rfl (by simp [undef]) rfl ?_
          refine op_v (v_pickt rfl rfl) rfl ?_
          refine op_v (v_move rfl) rfl ?_
          refine op_skip rfl rfl (by simp [undef]) rfl ?_
          refine op_skip rfl rfl (by simp [undef]) rfl ?_
          refine op_skip rfl rfl (by simp [undef]) rfl ?_
          refine op_skip rfl rfl (by simp [undef]) rfl ?_
          refine op_v (v_pickt rfl rfl) rfl ?_
          refine o_store ty4 rfl rfl rfl rfl rfl (by repeat (first | exact Swap.here | apply Swap.there)) rfl ?_
          refine ops_nil ?_
          refine post_out ?_
          refine PostJ.view (View.drop Del.here) ?_
          refine post_round Swap.here hrs hrp ⟨rfl, _, rfl, ?_⟩
          rw [hlen, hdp, hany]
          refine congrArg (fun q => [Ent.box b5 4 [.bool q], .box b4 3 [.int .i64 (max ((deepP pre : Nat) : Int) (x.1 : Int))], .box b3 3 [.int .i64 ((pre.length : Int) + 1)]]) (?_ : _ = (pre.any badN || badN x))
          clear hx hdp hany hlen hpl hv hxv hI9 hI2 hrs hrp
          rw [show pre.any badN = _ by assumption]
          simp [badN, *]
        · first
            | (refine op_want rfl rfl ?_
               refine op_v (v_cmpfA rfl rfl rfl) rfl ?_)
            | (refine op_skip rfl rfl (by simp [undef]) rfl ?_)
          first
            | (refine op_want rfl rfl ?_
               refine op_v (v_pickt rfl rfl) rfl ?_)
            | (refine op_skip rfl rfl (by simp [undef]) rfl ?_)
          refine op_v (v_pickf rfl rfl) rfl ?_
          refine op_v (v_move rfl) rfl ?_
          first
            | (refine op_want rfl rfl ?_
               refine op_v (v_fieldB 0 Tryz.underlying48 rfl rfl fz3 rfl) rfl ?_)
            | (refine op_skip rfl rfl (by simp [undef]) rfl ?_)
          refine op_want rfl rfl ?_
          refine op_v (v_loadA ty3 rfl rfl) rfl ?_
          by_cases h3 : x.2.head < -256
          · first
              | (refine op_want rfl rfl ?_
                 refine op_v (v_cmptA rfl rfl rfl) rfl ?_)
              | (refine op_skip rfl rfl (by simp [undef]) rfl ?_)
            refine op_v (v_pickf rfl rfl) rfl ?_
            refine op_v (v_move rfl) rfl ?_
            refine op_skip rfl rfl (by simp [undef]) rfl ?_
            refine op_skip rfl rfl (by simp [undef]) rfl ?_
            refine op_skip rfl rfl (by simp [undef]) rfl ?_
            refine op_v (v_pickt rfl rfl) rfl ?_
            refine op_v (v_move rfl) rfl ?_
            refine op_skip rfl rfl (by simp [undef]) rfl ?_
            refine op_skip rfl rfl (by simp [undef]) rfl ?_
            refine op_skip rfl rfl (by simp [undef]) rfl ?_
            refine op_skip rfl rfl (by simp [undef]) rfl ?_
            refine op_v (v_pickt rfl rfl) rfl ?_
            refine o_store ty4 rfl rfl rfl rfl rfl (by repeat (first | exact Swap.here | apply Swap.there)) rfl ?_
            refine ops_nil ?_
            refine post_out ?_
            refine PostJ.view (View.drop Del.here) ?_
            refine post_round Swap.here hrs hrp ⟨rfl, _, rfl, ?_⟩
            rw [hlen, hdp, hany]
            refine congrArg (fun q => [Ent.box b5 4 [.bool q], .box b4 3 [.int .i64 (max ((deepP pre : Nat) : Int) (x.1 : Int))], .box b3 3 [.int .i64 ((pre.length : Int) + 1)]]) (?_ : _ = (pre.any badN || badN x))
            clear hx hdp hany hlen hpl hv hxv hI9 hI2 hrs hrp
            rw [show pre.any badN = _ by assumption]
            simp [badN, *]
          · first
              | (refine op_want rfl rfl ?_
                 refine op_v (v_cmpfA rfl rfl rfl) rfl ?_)
              | (refine op_skip rfl rfl (by simp [undef]) rfl ?_)
            refine op_v (v_pickf rfl rfl) rfl ?_
            refine op_v (v_move rfl) rfl ?_
            first
              | (refine op_want rfl rfl ?_
                 refine op_v (v_fieldB 0 Tryz.underlying48 rfl rfl fz3 rfl) rfl ?_)
              | (refine op_skip rfl rfl (by simp [undef]) rfl ?_)
            refine op_want rfl rfl ?_
            refine op_v (v_loadA ty3 rfl rfl) rfl ?_
            by_cases h4 : 1023 < x.2.head
            · first
                | (refine op_want rfl rfl ?_
                   refine op_v (v_cmptA rfl rfl rfl) rfl ?_)
                | (refine op_skip rfl rfl (by simp [undef]) rfl ?_)
              refine op_v (v_pickf rfl rfl) rfl ?_
              refine op_v (v_move rfl) rfl ?_
              refine op_skip rfl rfl (by simp [undef]) rfl ?_
              refine op_skip rfl rfl (by simp [undef]) rfl ?_
              refine op_skip rfl rfl (by simp [undef]) rfl ?_
              refine op_skip rfl rfl (by simp [undef]) rfl ?_
              refine op_v (v_pickt rfl rfl) rfl ?_
              refine o_store ty4 rfl rfl rfl rfl rfl (by repeat (first | exact Swap.here | apply Swap.there)) rfl ?_
              refine ops_nil ?_
              refine post_out ?_
              refine PostJ.view (View.drop Del.here) ?_
              refine post_round Swap.here hrs hrp ⟨rfl, _, rfl, ?_⟩
              rw [hlen, hdp, hany]
              refine congrArg (fun q => [Ent.box b5 4 [.bool q], .box b4 3 [.int .i64 (max ((deepP pre : Nat) : Int) (x.1 : Int))], .box b3 3 [.int .i64 ((pre.length : Int) + 1)]]) (?_ : _ = (pre.any badN || badN x))
              clear hx hdp hany hlen hpl hv hxv hI9 hI2 hrs hrp
              rw [show pre.any badN = _ by assumption]
              simp [badN, *]
            · first
                | (refine op_want rfl rfl ?_
                   refine op_v (v_cmpfA rfl rfl rfl) rfl ?_)
                | (refine op_skip rfl rfl (by simp [undef]) rfl ?_)
              refine op_v (v_pickf rfl rfl) rfl ?_
              refine op_v (v_move rfl) rfl ?_
              first
                | (refine op_want rfl rfl ?_
                   refine op_v (v_fieldB 1 Tryz.underlying48 rfl rfl fz46 rfl) rfl ?_)
                | (refine op_skip rfl rfl (by simp [undef]) rfl ?_)
              refine op_want rfl rfl ?_
              refine op_v (v_loadA ty46 rfl rfl) rfl ?_
              refine op_want rfl rfl ?_
              refine op_v (v_len Tryz.underlying46 rfl) rfl ?_
              by_cases h5 : 8 < x.2.args.length
              · first
                  | (refine op_want rfl rfl ?_
                     refine op_v (v_cmptA rfl rfl rfl) rfl ?_)
                  | (refine op_skip rfl rfl (by simp [undef]) rfl ?_)
                refine op_v (v_pickf rfl rfl) rfl ?_
                refine o_store ty4 rfl rfl rfl rfl rfl (by repeat (first | exact Swap.here | apply Swap.there)) rfl ?_
                refine ops_nil ?_
                refine post_out ?_
                refine PostJ.view (View.drop Del.here) ?_
                refine post_round Swap.here hrs hrp ⟨rfl, _, rfl, ?_⟩
                rw [hlen, hdp, hany]
                refine congrArg (fun q => [Ent.box b5 4 [.bool q], .box b4 3 [.int .i64 (max ((deepP pre : Nat) : Int) (x.1 : Int))], .box b3 3 [.int .i64 ((pre.length : Int) + 1)]]) (?_ : _ = (pre.any badN || badN x))
                clear hx hdp hany hlen hpl hv hxv hI9 hI2 hrs hrp
                rw [show pre.any badN = _ by assumption]
                simp [badN, *]
              · first
                  | (refine op_want rfl rfl ?_
                     refine op_v (v_cmpfA rfl rfl rfl) rfl ?_)
                  | (refine op_skip rfl rfl (by simp [undef]) rfl ?_)
                refine op_v (v_pickf rfl rfl) rfl ?_
                refine o_store ty4 rfl rfl rfl rfl rfl (by repeat (first | exact Swap.here | apply Swap.there)) rfl ?_
                refine ops_nil ?_
                refine post_out ?_
                refine PostJ.view (View.drop Del.here) ?_
                refine post_round Swap.here hrs hrp ⟨rfl, _, rfl, ?_⟩
                rw [hlen, hdp, hany]
                refine congrArg (fun q => [Ent.box b5 4 [.bool q], .box b4 3 [.int .i64 (max ((deepP pre : Nat) : Int) (x.1 : Int))], .box b3 3 [.int .i64 ((pre.length : Int) + 1)]]) (?_ : _ = (pre.any badN || badN x))
                clear hx hdp hany hlen hpl hv hxv hI9 hI2 hrs hrp
                rw [show pre.any badN = _ by assumption]
                simp [badN, *]
      · first
          | (refine op_want rfl rfl ?_
             refine op_v (v_cmpfA rfl rfl rfl) rfl ?_)
          | (refine op_skip rfl rfl (by simp [undef]) rfl ?_)
        refine op_want rfl rfl ?_
        refine op_v (v_move rfl) rfl ?_
        refine op_skip rfl rfl (by simp [undef]) rfl ?_
        refine op_skip rfl rfl (by simp [undef]) rfl ?_
        refine op_skip rfl rfl (by simp [undef]) rfl ?_
        refine op_skip rfl rfl (by simp [undef]) rfl ?_
        first
          | (refine op_want rfl rfl ?_
             refine op_v (v_pickf rfl rfl) rfl ?_)
          | (refine op_skip rfl rfl (by simp [undef]) rfl ?_)
        refine op_v (v_pickf rfl rfl) rfl ?_
        refine op_v (v_move rfl) rfl ?_
        first
          | (refine op_want rfl rfl ?_
             refine op_v (v_fieldB 0 Tryz.underlying48 rfl rfl fz3 rfl) rfl ?_)
          | (refine op_skip rfl rfl (by simp [undef]) rfl ?_)
        refine op_want rfl rfl ?_
        refine op_v (v_loadA ty3 rfl rfl) rfl ?_
        by_cases h3 : x.2.head < -256
        · first
            | (refine op_want rfl rfl ?_
               refine op_v (v_cmptA rfl rfl rfl) rfl ?_)
            | (refine op_skip rfl rfl (by simp [undef]) rfl ?_)
          refine op_v (v_pickf rfl rfl) rfl ?_
          refine op_v (v_move rfl) rfl ?_
          refine op_skip rfl rfl (by simp [undef]) rfl ?_
          refine op_skip rfl rfl (by simp [undef]) rfl ?_
          refine op_skip rfl rfl (by simp [undef]) rfl ?_
          refine op_v (v_pickt rfl rfl) rfl ?_
          refine op_v (v_move rfl) rfl ?_
          refine op_skip rfl rfl (by simp [undef]) rfl ?_
          refine op_skip rfl rfl (by simp [undef]) rfl ?_
          refine op_skip rfl rfl (by simp [undef]) rfl ?_
          refine op_skip rfl rfl (by simp [undef]) rfl ?_
          refine op_v (v_pickt rfl rfl) rfl ?_
          refine o_store ty4 rfl rfl rfl rfl rfl (by repeat (first | exact Swap.here | apply Swap.there)) rfl ?_
          refine ops_nil ?_
          refine post_out ?_
          refine PostJ.view (View.drop Del.here) ?_
          refine post_round Swap.here hrs hrp ⟨rfl, _, rfl, ?_⟩
          rw [hlen, hdp, hany]
          refine congrArg (fun q => [Ent.box b5 4 [.bool q], .box b4 3 [.int .i64 (max ((deepP pre : Nat) : Int) (x.1 : Int))], .box b3 3 [.int .i64 ((pre.length : Int) + 1)]]) (?_ : _ = (pre.any badN || badN x))
          clear hx hdp hany hlen hpl hv hxv hI9 hI2 hrs hrp
          rw [show pre.any badN = _ by assumption]
          simp [badN, *]
        · first
            | (refine op_want rfl rfl ?_
               refine op_v (v_cmpfA rfl rfl rfl) rfl ?_)
            | (refine op_skip rfl rfl (by simp [undef]) rfl ?_)
          refine op_v (v_pickf rfl rfl) rfl ?_
          refine op_v (v_move rfl) rfl ?_
          first
            | (refine op_want rfl rfl ?_
               refine op_v (v_fieldB 0 Tryz.underlying48 rfl rfl fz3 rfl) rfl ?_)
            | (refine op_skip rfl rfl (by simp [undef]) rfl ?_)
          refine op_want rfl rfl ?_
          refine op_v (v_loadA ty3 rfl rfl) rfl ?_
          by_cases h4 : 1023 < x.2.head
          · first
              | (refine op_want rfl rfl ?_
                 refine op_v (v_cmptA rfl rfl rfl) rfl ?_)
              | (refine op_skip rfl rfl (by simp [undef]) rfl ?_)
            refine op_v (v_pickf rfl rfl) rfl ?_
            refine op_v (v_move rfl) rfl ?_
            refine op_skip rfl rfl (by simp [undef]) rfl ?_
            refine op_skip rfl rfl (by simp [undef]) rfl ?_
            refine op_skip rfl rfl (by simp [undef]) rfl ?_
            refine op_skip rfl rfl (by simp [undef]) rfl ?_
            refine op_v (v_pickt rfl rfl) rfl ?_
            refine o_store ty4 rfl rfl rfl rfl rfl (by repeat (first | exact Swap.here | apply Swap.there)) rfl ?_
            refine ops_nil ?_
            refine post_out ?_
            refine PostJ.view (View.drop Del.here) ?_
            refine post_round Swap.here hrs hrp ⟨rfl, _, rfl, ?_⟩
            rw [hlen, hdp, hany]
            refine congrArg (fun q => [Ent.box b5 4 [.bool q], .box b4 3 [.int .i64 (max ((deepP pre : Nat) : Int) (x.1 : Int))], .box b3 3 [.int .i64 ((pre.length : Int) + 1)]]) (?_ : _ = (pre.any badN || badN x))
            clear hx hdp hany hlen hpl hv hxv hI9 hI2 hrs hrp
            rw [show pre.any badN = _ by assumption]
            simp [badN, *]
          · first
              | (refine op_want rfl rfl ?_
                 refine op_v (v_cmpfA rfl rfl rfl) rfl ?_)
              | (refine op_skip rfl rfl (by simp [undef]) rfl ?_)
            refine op_v (v_pickf rfl rfl) rfl ?_
            refine op_v (v_move rfl) rfl ?_
            first
              | (refine op_want rfl rfl ?_
                 refine op_v (v_fieldB 1 Tryz.underlying48 rfl rfl fz46 rfl) rfl ?_)
              | (refine op_skip rfl rfl (by simp [undef]) rfl ?_)
            refine op_want rfl rfl ?_
            refine op_v (v_loadA ty46 rfl rfl) rfl ?_
            refine op_want rfl rfl ?_
            refine op_v (v_len Tryz.underlying46 rfl) rfl ?_
            by_cases h5 : 8 < x.2.args.length
            · first
                | (refine op_want rfl rfl ?_
                   refine op_v (v_cmptA rfl rfl rfl) rfl ?_)
                | (refine op_skip rfl rfl (by simp [undef]) rfl ?_)
              refine op_v (v_pickf rfl rfl) rfl ?_
              refine o_store ty4 rfl rfl rfl rfl rfl (by repeat (first | exact Swap.here | apply Swap.there)) rfl ?_
              refine ops_nil ?_
              refine post_out ?_
              refine PostJ.view (View.drop Del.here) ?_
              refine post_round Swap.here hrs hrp ⟨rfl, _, rfl, ?_⟩
              rw [hlen, hdp, hany]
              refine congrArg (fun q => [Ent.box b5 4 [.bool q], .box b4 3 [.int .i64 (max ((deepP pre : Nat) : Int) (x.1 : Int))], .box b3 3 [.int .i64 ((pre.length : Int) + 1)]]) (?_ : _ = (pre.any badN || badN x))
              clear hx hdp hany hlen hpl hv hxv hI9 hI2 hrs hrp
              rw [show pre.any badN = _ by assumption]
              simp [badN, *]
            · first
                | (refine op_want rfl rfl ?_
                   refine op_v (v_cmpfA rfl rfl rfl) rfl ?_)
                | (refine op_skip rfl rfl (by simp [undef]) rfl ?_)
              refine op_v (v_pickf rfl rfl) rfl ?_
              refine o_store ty4 rfl rfl rfl rfl rfl (by repeat (first | exact Swap.here | apply Swap.there)) rfl ?_
              refine ops_nil ?_
              refine post_out ?_
              refine PostJ.view (View.drop Del.here) ?_
              refine post_round Swap.here hrs hrp ⟨rfl, _, rfl, ?_⟩
              rw [hlen, hdp, hany]
              refine congrArg (fun q => [Ent.box b5 4 [.bool q], .box b4 3 [.int .i64 (max ((deepP pre : Nat) : Int) (x.1 : Int))], .box b3 3 [.int .i64 ((pre.length : Int) + 1)]]) (?_ : _ = (pre.any badN || badN x))
              clear hx hdp hany hlen hpl hv hxv hI9 hI2 hrs hrp
              rw [show pre.any badN = _ by assumption]
              simp [badN, *]
  · rintro blk I3 _ hI3 rfl
    refine post_out ?_
    refine post_next ?_
    refine code_seq ?_
    refine code_block ?_
    refine code_seq ?_
    refine code_region ?_
    rw [dep_deep, partsT_length]
    refine op_v (v_loadA ty3 rfl rfl) rfl ?_
    by_cases hq1 : 400 < t.size
    · refine op_v (v_cmptA rfl rfl rfl) rfl ?_
      refine op_v (v_assign rfl) rfl ?_
      refine ops_nil ?_
      refine post_next ?_
      refine code_cond_t rfl ?_
      refine code_seq ?_
      refine code_region ?_
      refine op_v (v_assign rfl) rfl ?_
      refine ops_nil ?_
      refine post_next ?_
      refine code_ret ?_
      refine post_ret_block ?_
      refine post_ret_then ?_
      refine post_ret (rs := [.tmp 2]) rfl (List.Perm.refl _) (.cons (.tmp rfl) .nil) (List.nil_sublist _) ?_
      exact ⟨by simp [outV, chkT, *], rfl⟩
    · refine op_v (v_cmpfA rfl rfl rfl) rfl ?_
      refine op_v (v_assign rfl) rfl ?_
      refine ops_nil ?_
      refine post_next ?_
      refine code_cond_f rfl ?_
      refine code_seq ?_
      refine code_region ?_
      refine op_v (v_loadA ty3 rfl rfl) rfl ?_
      by_cases hq2 : 40 < depT t
      · refine op_v (v_cmptA rfl rfl rfl) rfl ?_
        refine op_v (v_assign rfl) rfl ?_
        refine ops_nil ?_
        refine post_next ?_
        refine code_cond_t rfl ?_
        refine code_seq ?_
        refine code_region ?_
        refine op_v (v_assign rfl) rfl ?_
        refine ops_nil ?_
        refine post_next ?_
        refine code_ret ?_
        refine post_ret_block ?_
        refine post_ret_then ?_
        refine post_ret (rs := [.tmp 2]) rfl (List.Perm.refl _) (.cons (.tmp rfl) .nil) (List.nil_sublist _) ?_
        exact ⟨by simp [outV, chkT, *], rfl⟩
      · refine op_v (v_cmpfA rfl rfl rfl) rfl ?_
        refine op_v (v_assign rfl) rfl ?_
        refine ops_nil ?_
        refine post_next ?_
        refine code_cond_f rfl ?_
        refine code_seq ?_
        refine code_region ?_
        by_cases hq3 : (partsT 1 t).any badN = true
        · rw [hq3]
          refine op_v (v_loadA ty4 rfl rfl) rfl ?_
          refine op_v (v_assign rfl) rfl ?_
          refine ops_nil ?_
          refine post_next ?_
          refine code_cond_t rfl ?_
          refine code_seq ?_
          refine code_region ?_
          refine op_v (v_assign rfl) rfl ?_
          refine ops_nil ?_
          refine post_next ?_
          refine code_ret ?_
          refine post_ret_block ?_
          refine post_ret_then ?_
          refine post_ret (rs := [.tmp 2]) rfl (List.Perm.refl _) (.cons (.tmp rfl) .nil) (List.nil_sublist _) ?_
          exact ⟨by simp [outV, chkT, *], rfl⟩
        · rw [show (partsT 1 t).any badN = false by simpa using hq3]
          refine op_v (v_loadA ty4 rfl rfl) rfl ?_
          refine op_v (v_assign rfl) rfl ?_
          refine ops_nil ?_
          refine post_next ?_
          refine code_cond_f rfl ?_
          refine code_skip ?_
          refine post_out ?_
          refine post_next ?_
          refine code_seq ?_
          refine code_region ?_
          refine op_v (v_assign rfl) rfl ?_
          refine ops_nil ?_
          refine post_next ?_
          refine code_ret ?_
          refine post_ret (rs := [.tmp 2]) rfl (List.Perm.refl _) (.cons (.tmp rfl) .nil) (List.nil_sublist _) ?_
          exact ⟨by simp [outV, chkT, *], rfl⟩
end Go.Proofs.YtdbadicpbmndbaaGreat
/- Walk: are two terms the same, by the program. -/
set_option linter.unusedVariables false
set_option linter.unusedSimpArgs false
/- short -/
namespace Go.Proofs.YtdbadicpbmndbaaGreat
open Go Lg

theorem RowT.take {I : Imm} {xs : List Value} {ts : List T} {x : T} (h : RowT I xs (ts ++ [x])) : RowT I (xs.take (ts.length * 2)) ts := by
  refine ⟨by rw [List.length_take, h.1]; simp only [List.length_append, List.length_cons, List.length_nil]; omega, fun i hi => ?_⟩
  obtain ⟨s, h1, h2, h3⟩ := h.2 i (by simp; omega)
  have e : (ts ++ [x])[i]'(by simp; omega) = ts[i] := List.getElem_append_left hi
  rw [e] at h1 h2 h3
  exact ⟨s, by rw [List.getElem?_take_of_lt (by omega)]; exact h1, by rw [List.getElem?_take_of_lt (by omega)]; exact h2, h3⟩
theorem RowT.last {I : Imm} {xs : List Value} {ts : List T} {x : T} (h : RowT I xs (ts ++ [x])) :
    ∃ s : Option Addr × Nat, ld true 2 (xs.drop (ts.length * 2)) = some (.agg #[.int .i64 x.head, .slice s.1 x.args.length s.2]) ∧ RepT I (.agg #[.int .i64 x.head, .slice s.1 x.args.length s.2]) x := by
  obtain ⟨s, h1, h2, h3⟩ := h.2 ts.length (by simp)
  have e : (ts ++ [x])[ts.length]'(by simp) = x := by simp
  rw [e] at h1 h2 h3
  refine ⟨s, ?_, h3⟩
  obtain ⟨l1, e1⟩ := List.getElem?_eq_some_iff.1 h1
  obtain ⟨l2, e2⟩ := List.getElem?_eq_some_iff.1 h2
  rw [List.drop_eq_getElem_cons l1, List.drop_eq_getElem_cons l2, e1, e2]
  rfl
/-- pairs of a stack of two rows -/
theorem same_cons {ls rs : List T} {x y : T} (hl : ls.length = rs.length) (hx : x.head = y.head) (hn : x.args.length = y.args.length) : (ls ++ [x] = rs ++ [y]) ↔ (ls ++ x.args = rs ++ y.args) := by
  constructor
  · intro h
    have := List.append_inj h hl
    obtain ⟨h1, h2⟩ := this
    simp at h2
    rw [h1, h2]
  · intro h
    obtain ⟨h1, h2⟩ := List.append_inj h hl
    obtain ⟨a, a2⟩ := x
    obtain ⟨b, b2⟩ := y
    simp only [T.head, T.args] at hx h2
    rw [h1, hx, h2]
theorem TSame_does {I : Imm} {v w : Value} {t u : T} (hv : RepT I v t) (hw : RepT I w u) (hbt : t.size ≤ 1000000000) (hbu : u.size ≤ 1000000000) :
    Does Tryz.prog 123 [v, w] I [] (fun v I' δ' => v = .bool (decide (t = u)) ∧ δ' = []) := by
  obtain ⟨ta, tc, rfl, _⟩ := hv.shape
  obtain ⟨ua, uc, rfl, _⟩ := hw.shape
  refine Does.intro Tryz.func123 rfl Tryz.ntmps123 rfl fun w0 => ?_
  refine code_seq ?_
  refine code_region ?_
  refine o_box rfl rfl rfl (fun b2 => ?_)
  refine o_box rfl rfl rfl (fun b3 => ?_)
  refine op_v (v_assign rfl) rfl ?_
  refine ops_nil ?_
  refine post_next ?_
  refine code_seq_meet (fun σ' I' δ' => ∃ b11 b13 : Nat, σ' = [(2, .pointer (some ⟨b2, 0, none⟩)), (3, .pointer (some ⟨b3, 0, none⟩)), (5, .slice (some ⟨b11, 0, none⟩) 1 1), (6, .slice (some ⟨b13, 0, none⟩) 1 1)] ∧ I = I' ∧ δ' = [.row (.slice (some ⟨b11, 0, none⟩) 1 1) 48 2 1 [.int .i64 t.head, .slice ta t.args.length tc], .row (.slice (some ⟨b13, 0, none⟩) 1 1) 48 2 1 [.int .i64 u.head, .slice ua u.args.length uc]]) ?_ ?_
  · refine code_draw (.fl 0 (.fl 2 (.two 1 3 (.fl 4 (.ef 3 (.ef 5 .done))) (.ef 1 (.ef 4 (.ef 5 .done)))))) (fun _ => [.box b3 48 [.int .i64 u.head, .slice ua u.args.length uc], .box b2 48 [.int .i64 t.head, .slice ta t.args.length tc]]) mixed (by kernel_rfl) (by kernel_rfl) (fun _ => (List.Sublist.refl _)) ?_
    refine e_float rfl rfl (fun hs_ => PF.mk rfl (v_loadA ty48 rfl rfl) hs_) Imm.leA (by intro x hx; simp only [List.mem_cons, List.not_mem_nil, or_false] at hx; rcases hx with rfl | rfl <;> simp [cellsL]) ?_
    refine e_float rfl rfl (fun hs_ => PF.mk rfl (v_loadA ty48 rfl rfl) hs_) Imm.leA (by intro x hx; simp only [List.mem_cons, List.not_mem_nil, or_false] at hx; rcases hx with rfl | rfl <;> simp [cellsL]) ?_
    refine e_two rfl (by intro cs b hc; cases hc) (by intro c hc; cases hc) rfl (by intro cs b hc; cases hc) (by intro c hc; cases hc) ?_ ?_
    · refine o_buildSlice (xs := [(Go.Operand.tmp 10)]) Tryz.underlying46 bs48 rfl rfl rfl rfl rfl (fun b11 => ?_)
      refine ops_nil ?_
      refine e_next rfl (side_all Imm.leA (fun _ => (by intro x hx; simp only [List.mem_cons, List.not_mem_nil, or_false] at hx; rcases hx with rfl | rfl <;> simp [cellsL]))) ?_
      refine e_float rfl rfl (fun hs_ => PF.mk rfl (v_assign rfl) hs_) Imm.leA (by intro x hx; simp only [List.mem_cons, List.not_mem_nil, or_false] at hx; rcases hx with rfl | rfl <;> simp [cellsL]) ?_
      refine e_eff rfl (by intro cs b hc; cases hc) (by intro c hc; cases hc) ?_
      refine o_buildSlice (xs := [(Go.Operand.tmp 12)]) Tryz.underlying46 bs48 rfl rfl rfl rfl rfl (fun b13 => ?_)
      refine ops_nil ?_
      refine e_next rfl (side_all Imm.leA (fun _ => (by intro x hx; simp only [List.mem_cons, List.not_mem_nil, or_false] at hx; rcases hx with rfl | rfl <;> simp [cellsL]))) ?_
      refine e_eff rfl (by intro cs b hc; cases hc) (by intro c hc; cases hc) ?_
      refine op_v (v_assign rfl) rfl ?_
      refine ops_nil ?_
      refine e_next rfl (side_nil (by kernel_rfl)) ?_
      refine e_done ?_
      refine PostJ.view ((View.perm (List.Perm.swap _ _ _)).trans (View.sub (List.Sublist.cons_cons _ (List.Sublist.cons_cons _ (List.nil_sublist _))))) ?_
      exact post_meet _ ⟨b11, b13, rfl, rfl, rfl⟩ ⟨rfl, rfl, rfl, rfl, trivial⟩
    · refine o_buildSlice (xs := [(Go.Operand.tmp 12)]) Tryz.underlying46 bs48 rfl rfl rfl rfl rfl (fun b13 => ?_)
      refine ops_nil ?_
      refine e_next rfl (side_all Imm.leA (fun _ => (by intro x hx; simp only [List.mem_cons, List.not_mem_nil, or_false] at hx; rcases hx with rfl | rfl <;> simp [cellsL]))) ?_
      refine e_eff rfl (by intro cs b hc; cases hc) (by intro c hc; cases hc) ?_
      refine o_buildSlice (xs := [(Go.Operand.tmp 10)]) Tryz.underlying46 bs48 rfl rfl rfl rfl rfl (fun b11 => ?_)
      refine ops_nil ?_
      refine e_next rfl (side_nil (by kernel_rfl)) ?_
      refine e_eff rfl (by intro cs b hc; cases hc) (by intro c hc; cases hc) ?_
      refine op_v (v_assign rfl) rfl ?_
      refine ops_nil ?_
      refine e_next rfl (side_nil (by kernel_rfl)) ?_
      refine e_eff rfl (by intro cs b hc; cases hc) (by intro c hc; cases hc) ?_
      refine op_v (v_assign rfl) rfl ?_
      refine ops_nil ?_
      refine e_next rfl (side_nil (by kernel_rfl)) ?_
      refine e_done ?_
      refine PostJ.view (View.sub (List.Sublist.cons_cons _ (List.Sublist.cons_cons _ (List.nil_sublist _)))) ?_
      exact post_meet _ ⟨b11, b13, rfl, rfl, rfl⟩ ⟨rfl, rfl, rfl, rfl, trivial⟩
  · rintro _ _ _ ⟨b11, b13, rfl, rfl, rfl⟩
    refine code_seq ?_
    refine code_block ?_
    refine code_loop (fun m σ' I' δ' => ∃ (ls rs : List T) (la ra : Option Addr) (lc rc : Nat) (xs ys : List Value), m = sizeL ls ∧ ls.length = rs.length ∧ σ' = [(5, .slice la ls.length lc), (6, .slice ra ls.length rc)] ∧ I.le I' ∧ δ' = [.row (.slice la ls.length lc) 48 2 ls.length xs, .row (.slice ra ls.length rc) 48 2 ls.length ys] ∧ RowT I' xs ls ∧ RowT I' ys rs ∧ sizeL ls ≤ t.size ∧ (t = u ↔ ls = rs)) (sizeL [t]) [(5, .slice (some ⟨b11, 0, none⟩) 1 1), (6, .slice (some ⟨b13, 0, none⟩) 1 1)] ⟨[t], [u], _, _, _, _, _, _, rfl, rfl, rfl, Imm.le_refl _, rfl, RowT.one hv, RowT.one hw, by simp [sizeL], by simp⟩ ⟨rfl, rfl, trivial⟩ ?_
    rintro m _ I0 _ ⟨ls, rs, la, ra, lc, rc, xs, ys, rfl, hlr, rfl, hI0, rfl, hrl, hrr, hsz, hiff⟩
    refine code_seq ?_
    refine code_seq ?_
    refine code_region ?_
    refine op_v (v_move rfl) rfl ?_
    refine op_v (v_len Tryz.underlying46 rfl) rfl ?_
    refine op_v (v_cmp rfl rfl rfl) rfl ?_
    refine ops_nil ?_
    refine post_next ?_
    refine code_cond rfl (fun hc0 => ?_) (fun hc0 => ?_)
    · rcases List.eq_nil_or_concat ls with rfl | ⟨ls', x, rfl⟩
      · simp at hc0
      rcases List.eq_nil_or_concat rs with rfl | ⟨rs', y, rfl⟩
      · simp at hlr
      rw [List.concat_eq_append] at *
      rw [List.concat_eq_append] at *
      have hlen : (ls' ++ [x]).length = ls'.length + 1 := by simp
      have hlr' : ls'.length = rs'.length := by simpa using hlr
      rw [hlen]
      obtain ⟨⟨xa, xc⟩, hldx, hrx⟩ := hrl.last
      obtain ⟨⟨ya, yc⟩, hldy, hry⟩ := hrr.last
      rw [← hlr'] at hldy
      have hrl' := hrl.take
      have hrr' := hrr.take
      rw [← hlr'] at hrr'
      dsimp only at hldx hldy hrx hry
      have hszl := sizeL_len ls'
      have hszx := sizeL_len x.args
      have hsx : x.size = 1 + sizeL x.args := by cases x; simp [T.size, T.args]
      have hap := sizeL_app ls' [x]
      have hap2 := sizeL_app ls' x.args
      simp only [sizeL, Nat.add_zero] at hap
      refine code_skip ?_
      refine post_next ?_
      refine code_block ?_
      refine code_seq ?_
      refine code_region ?_
      refine OpsJ.rowSome Has.here (by omega) (fun hA hcl => ?_)
      refine OpsJ.rowSome (Has.there Has.here) (by omega) (fun hB hcr => ?_)
      refine op_v (v_move rfl) rfl ?_
      refine op_v (v_len Tryz.underlying46 rfl) rfl ?_
      refine op_v (v_subb rfl rfl rfl (by omega)) rfl ?_
      rw [show ((ls'.length + 1 : Nat) : Int) - 1 = (ls'.length : Nat) by omega]
      refine op_v (v_assign rfl) rfl ?_
      refine ops_nil ?_
      refine post_next ?_
      refine code_seq_meet (fun σ' I' δ' => ∃ b8 b9 : Nat, σ' = [(5, .slice la (ls'.length + 1) lc), (6, .slice ra (ls'.length + 1) rc), (7, .int .i64 (ls'.length : Nat)), (8, .pointer (some ⟨b8, 0, none⟩)), (9, .pointer (some ⟨b9, 0, none⟩))] ∧ I0 = I' ∧ δ' = [.box b8 48 [.int .i64 x.head, .slice xa x.args.length xc], .box b9 48 [.int .i64 y.head, .slice ya y.args.length yc], .row (.slice la (ls'.length + 1) lc) 48 2 (ls'.length + 1) xs, .row (.slice ra (ls'.length + 1) rc) 48 2 (ls'.length + 1) ys]) ?_ ?_
      · refine code_draw (.fl 0 (.fl 1 (.fl 2 (.fl 3 (.fl 4 (.fl 5 (.fl 6 (.fl 7 (.two 8 9 (.ef 9 (.ef 10 (.ef 11 .done))) (.ef 8 (.ef 10 (.ef 11 .done)))))))))))) (fun _ => _) mixed (by kernel_rfl) (by kernel_rfl) (fun _ => (List.Sublist.refl _)) ?_
        refine e_fl rfl rfl (fun hs_ => PF.mk rfl (v_move rfl) hs_) ?_
        refine e_fl rfl rfl (fun hs_ => PF.mk rfl (v_move rfl) hs_) ?_
        refine e_fl rfl rfl (fun hs_ => PF.mk rfl (v_indexA Tryz.underlying46 sz48 rfl rfl) hs_) ?_
        refine e_fl rfl rfl (fun hs_ => PF.mk rfl (v_loadRow ty48 rfl Has.here hA hldx) hs_) ?_
        refine e_fl rfl rfl (fun hs_ => PF.mk rfl (v_move rfl) hs_) ?_
        refine e_fl rfl rfl (fun hs_ => PF.mk rfl (v_move rfl) hs_) ?_
        refine e_fl rfl rfl (fun hs_ => PF.mk rfl (v_indexA Tryz.underlying46 sz48 rfl rfl) hs_) ?_
        refine e_fl rfl rfl (fun hs_ => PF.mk rfl (v_loadRow ty48 rfl (Has.there Has.here) hB hldy) hs_) ?_
        refine e_two rfl (by intro cs b hc; cases hc) (by intro c hc; cases hc) rfl (by intro cs b hc; cases hc) (by intro c hc; cases hc) ?_ ?_
        · refine o_alloc z48 rfl rfl (fun b8 => ?_)
          refine ops_nil ?_
          refine e_next rfl side_allA ?_
          refine e_eff rfl (by intro cs b hc; cases hc) (by intro c hc; cases hc) ?_
          refine o_alloc z48 rfl rfl (fun b9 => ?_)
          refine ops_nil ?_
          refine e_next rfl side_allA ?_
          refine e_eff rfl (by intro cs b hc; cases hc) (by intro c hc; cases hc) ?_
          refine o_store ty48 rfl rfl rfl rfl rfl (by repeat (first | exact Swap.here | apply Swap.there)) rfl ?_
          refine ops_nil ?_
          refine e_next_ side_allA ?_
          refine e_eff rfl (by intro cs b hc; cases hc) (by intro c hc; cases hc) ?_
          refine o_store ty48 rfl rfl rfl rfl rfl (by repeat (first | exact Swap.here | apply Swap.there)) rfl ?_
          refine ops_nil ?_
          refine e_next_ (side_nil (by kernel_rfl)) ?_
          refine e_done ?_
          refine PostJ.view (View.perm (List.Perm.swap _ _ _)) ?_
          exact post_meet _ ⟨b8, b9, rfl, rfl, rfl⟩ ⟨rfl, rfl, rfl, rfl, rfl, trivial⟩
        · refine o_alloc z48 rfl rfl (fun b9 => ?_)
          refine ops_nil ?_
          refine e_next rfl side_allA ?_
          refine e_eff rfl (by intro cs b hc; cases hc) (by intro c hc; cases hc) ?_
          refine o_alloc z48 rfl rfl (fun b8 => ?_)
          refine ops_nil ?_
          refine e_next rfl side_allA ?_
          refine e_eff rfl (by intro cs b hc; cases hc) (by intro c hc; cases hc) ?_
          refine o_store ty48 rfl rfl rfl rfl rfl (by repeat (first | exact Swap.here | apply Swap.there)) rfl ?_
          refine ops_nil ?_
          refine e_next_ side_allA ?_
          refine e_eff rfl (by intro cs b hc; cases hc) (by intro c hc; cases hc) ?_
          refine o_store ty48 rfl rfl rfl rfl rfl (by repeat (first | exact Swap.here | apply Swap.there)) rfl ?_
          refine ops_nil ?_
          refine e_next_ (side_nil (by kernel_rfl)) ?_
          refine e_done ?_
          exact post_meet _ ⟨b8, b9, rfl, rfl, rfl⟩ ⟨rfl, rfl, rfl, rfl, rfl, trivial⟩
      · rintro _ _ _ ⟨b8, b9, rfl, rfl, rfl⟩
        refine code_seq ?_
        refine code_draw (.fl 0 (.fl 1 (.fl 2 (.fl 3 (.fl 4 (.fl 5 (.ef 6 (.ef 7 .done)))))))) (fun _ => _) mixed (by kernel_rfl) (by kernel_rfl) (fun _ => (List.Sublist.refl _)) ?_
        refine e_fl rfl rfl (fun hs_ => PF.mk rfl (v_move rfl) hs_) ?_
        refine e_fl rfl rfl (fun hs_ => PF.mk rfl (v_move rfl) hs_) ?_
        refine e_fl rfl rfl (fun hs_ => PF.mk rfl (v_sliceTo Tryz.underlying46 sz48 rfl rfl (by omega)) hs_) ?_
        refine e_fl rfl rfl (fun hs_ => PF.mk rfl (v_move rfl) hs_) ?_
        refine e_fl rfl rfl (fun hs_ => PF.mk rfl (v_move rfl) hs_) ?_
        refine e_fl rfl rfl (fun hs_ => PF.mk rfl (v_sliceTo Tryz.underlying46 sz48 rfl rfl (by omega)) hs_) ?_
        refine e_eff rfl (by intro cs b hc; cases hc) (by intro c hc; cases hc) ?_
        refine op_v (v_assign rfl) rfl ?_
        refine ops_nil ?_
        refine e_next rfl side_allA ?_
        refine e_eff rfl (by intro cs b hc; cases hc) (by intro c hc; cases hc) ?_
        refine op_v (v_assign rfl) rfl ?_
        refine ops_nil ?_
        refine e_next rfl (side_nil (by kernel_rfl)) ?_
        refine e_done ?_
        refine post_next ?_
        refine code_seq ?_
        refine code_seq ?_
        refine code_region ?_
        refine OpsJ.view ((View.short _ (Swap.there (Swap.there Swap.here)) (Nat.le_succ _)).trans (View.short _ (Swap.there (Swap.there (Swap.there Swap.here))) (Nat.le_succ _))) ?_
        refine op_v (v_fieldB 0 Tryz.underlying48 rfl rfl fz3 rfl) rfl ?_
        refine op_v (v_loadA ty3 rfl rfl) rfl ?_
        refine op_v (v_fieldB 0 Tryz.underlying48 rfl rfl fz3 rfl) rfl ?_
        refine op_v (v_loadA ty3 rfl rfl) rfl ?_
        by_cases hh : x.head ≠ y.head
        · refine op_v (v_cmptA rfl rfl rfl) rfl ?_
          refine op_v (v_move rfl) rfl ?_
          refine op_skip rfl rfl (by simp [undef]) rfl ?_
          refine op_skip rfl rfl (by simp [undef]) rfl ?_
          refine op_skip rfl rfl (by simp [undef]) rfl ?_
          refine op_skip rfl rfl (by simp [undef]) rfl ?_
          refine op_skip rfl rfl (by simp [undef]) rfl ?_
          refine op_skip rfl rfl (by simp [undef]) rfl ?_
          refine op_skip rfl rfl (by simp [undef]) rfl ?_
          refine op_v (v_pickt rfl rfl) rfl ?_
          refine ops_nil ?_
          refine post_next ?_
          refine code_cond_t rfl ?_
          refine code_seq ?_
          refine code_region ?_
          refine op_v (v_assign rfl) rfl ?_
          refine ops_nil ?_
          refine post_next ?_
          refine code_ret ?_
          refine post_ret_then ?_
          refine post_ret_block ?_
          refine post_ret_then ?_
          refine post_ret_block ?_
          refine post_ret_then ?_
          refine post_ret (rs := [.tmp 4]) rfl (List.Perm.refl _) (.cons (.tmp rfl) .nil) (List.nil_sublist _) ?_
          exact ⟨bool_f fun e => hh (by have := hiff.1 e; have := (List.append_inj this hlr').2; simp at this; rw [this]), rfl⟩
        · refine op_v (v_cmpfA rfl rfl rfl) rfl ?_
          refine op_v (v_move rfl) rfl ?_
          first
            | (refine op_want rfl rfl ?_
               refine op_v (v_fieldB 1 Tryz.underlying48 rfl rfl fz46 rfl) rfl ?_)
            | (refine op_skip rfl rfl (by simp [undef]) rfl ?_)
          refine op_want rfl rfl ?_
          refine op_v (v_loadA ty46 rfl rfl) rfl ?_
          refine op_want rfl rfl ?_
          refine op_v (v_len Tryz.underlying46 rfl) rfl ?_
          first
            | (refine op_want rfl rfl ?_
               refine op_v (v_fieldB 1 Tryz.underlying48 rfl rfl fz46 rfl) rfl ?_)
            | (refine op_skip rfl rfl (by simp [undef]) rfl ?_)
          refine op_want rfl rfl ?_
          refine op_v (v_loadA ty46 rfl rfl) rfl ?_
          refine op_want rfl rfl ?_
          refine op_v (v_len Tryz.underlying46 rfl) rfl ?_
          by_cases hn : x.args.length ≠ y.args.length
          · first
              | (refine op_want rfl rfl ?_
                 refine op_v (v_cmptA rfl rfl rfl) rfl ?_)
              | (refine op_skip rfl rfl (by simp [undef]) rfl ?_)
            refine op_v (v_pickf rfl rfl) rfl ?_
            refine ops_nil ?_
            refine post_next ?_
            refine code_cond_t rfl ?_
            refine code_seq ?_
            refine code_region ?_
            refine op_v (v_assign rfl) rfl ?_
            refine ops_nil ?_
            refine post_next ?_
            refine code_ret ?_
            refine post_ret_then ?_
            refine post_ret_block ?_
            refine post_ret_then ?_
            refine post_ret_block ?_
            refine post_ret_then ?_
            refine post_ret (rs := [.tmp 4]) rfl (List.Perm.refl _) (.cons (.tmp rfl) .nil) (List.nil_sublist _) ?_
            exact ⟨bool_f fun e => hn (by have := hiff.1 e; have := (List.append_inj this hlr').2; simp at this; rw [this]), rfl⟩
          · first
              | (refine op_want rfl rfl ?_
                 refine op_v (v_cmpfA rfl rfl rfl) rfl ?_)
              | (refine op_skip rfl rfl (by simp [undef]) rfl ?_)
            refine op_v (v_pickf rfl rfl) rfl ?_
            refine ops_nil ?_
            refine post_next ?_
            refine code_cond_f rfl ?_
            refine code_skip ?_
            refine post_next ?_
            refine code_draw (.fl 0 (.fl 1 (.fl 2 (.fl 4 (.fl 5 (.fl 6 (.ef 3 (.ef 7 (.ef 8 (.ef 9 .done)))))))))) (fun _ => [.box b8 48 [.int .i64 x.head, .slice xa x.args.length xc], .box b9 48 [.int .i64 y.head, .slice ya y.args.length yc]]) mixed (by kernel_rfl) (by kernel_rfl) (fun _ => (List.Sublist.cons_cons _ (List.Sublist.cons_cons _ (List.nil_sublist _)))) ?_
            refine e_fl rfl rfl (fun hs_ => PF.mk rfl (v_move rfl) hs_) ?_
            refine e_fl rfl rfl (fun hs_ => PF.mk rfl (v_fieldB 1 Tryz.underlying48 rfl rfl fz46 rfl) hs_) ?_
            refine e_fl rfl rfl (fun hs_ => PF.mk rfl (v_loadA ty46 rfl rfl) hs_) ?_
            refine e_fl rfl rfl (fun hs_ => PF.mk rfl (v_move rfl) hs_) ?_
            refine e_fl rfl rfl (fun hs_ => PF.mk rfl (v_fieldB 1 Tryz.underlying48 rfl rfl fz46 rfl) hs_) ?_
            refine e_fl rfl rfl (fun hs_ => PF.mk rfl (v_loadA ty46 rfl rfl) hs_) ?_
            refine e_eff rfl (by intro cs b hc; cases hc) (by intro c hc; cases hc) ?_
            obtain ⟨_, _, _, _, hubx, ssx, huax, husubx⟩ := hrx.open
            obtain ⟨_, _, _, _, huby, ssy, huay, husuby⟩ := hry.open
            obtain ⟨hcx, hrowx⟩ := RowT.of huax husubx
            obtain ⟨hcy, hrowy⟩ := RowT.of huay husuby
            have hh' : x.head = y.head := by omega
            have hn' : x.args.length = y.args.length := by omega
            refine o_append Tryz.underlying46 bs48 rfl rfl rfl (fun v' => by repeat (first | exact Swap.here | apply Swap.there)) (Src.ofI hcx) (rowsT_length _ _) (rowsT_one _ _) (by omega) (by omega) (fun a51 c51 => ?_)
            refine ops_nil ?_
            refine e_next rfl side_allA ?_
            refine e_eff rfl (by intro cs b hc; cases hc) (by intro c hc; cases hc) ?_
            refine o_append Tryz.underlying46 bs48 rfl rfl rfl (fun v' => by repeat (first | exact Swap.here | apply Swap.there)) (Src.ofI hcy) (rowsT_length _ _) (rowsT_one _ _) (by omega) (by omega) (fun a55 c55 => ?_)
            refine ops_nil ?_
            refine e_next rfl side_allA ?_
            refine e_eff rfl (by intro cs b hc; cases hc) (by intro c hc; cases hc) ?_
            refine op_v (v_assign rfl) rfl ?_
            refine ops_nil ?_
            refine e_next rfl side_allA ?_
            refine e_eff rfl (by intro cs b hc; cases hc) (by intro c hc; cases hc) ?_
            refine op_v (v_assign rfl) rfl ?_
            refine ops_nil ?_
            refine e_next rfl (side_nil (by kernel_rfl)) ?_
            refine e_done ?_
            refine post_out ?_
            refine PostJ.view ((View.drop Del.here).trans (View.drop Del.here)) ?_
            rw [← hn']
            have hl1 : ls'.length + x.args.length = (ls' ++ x.args).length := by simp
            rw [hl1]
            refine post_again (sizeL (ls' ++ x.args)) [(5, .slice a51 (ls' ++ x.args).length c51), (6, .slice a55 (ls' ++ x.args).length c55)] (by omega) ⟨ls' ++ x.args, rs' ++ y.args, a51, a55, c51, c55, _, _, rfl, by simp; omega, rfl, hI0, rfl, hrl'.app hrowx, hrr'.app hrowy, by omega, hiff.trans (same_cons hlr' hh' hn')⟩ ⟨rfl, rfl, trivial⟩
    · have hls : ls = [] := by simpa using hc0
      subst hls
      have hrs : rs = [] := List.eq_nil_of_length_eq_zero (by simpa using hlr.symm)
      refine code_exit ?_
      refine post_exit_then ?_
      refine post_exit_then ?_
      refine post_exit ?_
      refine post_next ?_
      refine code_seq ?_
      refine code_region ?_
      refine op_v (v_assign rfl) rfl ?_
      refine ops_nil ?_
      refine post_next ?_
      refine code_ret ?_
      refine post_ret (rs := [.tmp 4]) rfl (List.Perm.refl _) (.cons (.tmp rfl) .nil) (List.nil_sublist _) ?_
      exact ⟨bool_t (hiff.2 hrs.symm), rfl⟩
end Go.Proofs.YtdbadicpbmndbaaGreat
/- Walk: how two terms stand, by the program. -/
set_option linter.unusedVariables false
set_option linter.unusedSimpArgs false
/- short -/
namespace Go.Proofs.YtdbadicpbmndbaaGreat
open Go Lg

/-! ### a scope of labels that nothing jumps to -/
/-! ### the model -/
theorem size_eqT (t : T) : t.size = 1 + sizeL t.args := by cases t; simp [T.size, T.args]
end Go.Proofs.YtdbadicpbmndbaaGreat
/- Walks: a symbol among others, a signature's rightness. -/
set_option linter.unusedVariables false
set_option linter.unusedSimpArgs false
/- short -/
namespace Go.Proofs.YtdbadicpbmndbaaGreat
open Go Lg

/-- the place of the first one of which something is so -/
def idxP (p : Sy → Bool) : List Sy → Int
  | [] => -1
  | s :: r => if p s then 0 else if idxP p r < 0 then -1 else idxP p r + 1
theorem idxP_range (p : Sy → Bool) : ∀ gs : List Sy, -1 ≤ idxP p gs ∧ idxP p gs < gs.length
  | [] => by simp [idxP]
  | s :: r => by have := idxP_range p r; simp only [idxP, List.length_cons]; split <;> (try split) <;> omega
theorem idxP_none (p : Sy → Bool) : ∀ gs : List Sy, gs.any p = false → idxP p gs = -1
  | [], _ => rfl
  | s :: r, h => by simp only [List.any_cons, Bool.or_eq_false_iff] at h; simp [idxP, h.1, idxP_none p r h.2]
theorem idxP_hit (p : Sy → Bool) : ∀ (gs : List Sy) (k : Nat) (h : k < gs.length), (gs.take k).any p = false → p gs[k] = true → idxP p gs = k
  | s :: r, 0, _, _, hk => by simp at hk; simp [idxP, hk]
  | s :: r, k + 1, h, hp, hk => by
    simp only [List.take_succ_cons, List.any_cons, Bool.or_eq_false_iff] at hp
    have := idxP_hit p r k (by simpa using h) hp.2 (by simpa using hk)
    simp only [idxP, hp.1, Bool.false_eq_true, if_false, this]
    rw [if_neg (by omega)]; omega
theorem idxP_any (p : Sy → Bool) : ∀ gs : List Sy, 0 ≤ idxP p gs ↔ gs.any p = true
  | [] => by simp [idxP]
  | s :: r => by
    have h1 := idxP_any p r
    have h2 := idxP_range p r
    simp only [idxP, List.any_cons, Bool.or_eq_true, ← h1]
    by_cases h : p s = true
    · simp [h]
    · simp only [h, Bool.false_eq_true, if_false, false_or]; split <;> omega
theorem any_take_succ {p : Sy → Bool} {gs : List Sy} {k : Nat} (h : k < gs.length) (hp : (gs.take k).any p = false) (hk : p gs[k] = false) : (gs.take (k + 1)).any p = false := by
  rw [List.take_succ_eq_append_getElem h, List.any_append, hp]; simp [hk]

theorem IndexFunc_does {I : Imm} {v fv : Value} {gs : List Sy} {δf : List Ent} {p : Sy → Bool} (hv : RepG I v gs) (hf : ∀ J s, I.le J → FDoes Tryz.prog fv [s.v] J δf (fun v _ δ' => v = .bool (p s) ∧ δ' = δf)) :
    Does Tryz.prog 136 [v, fv] I δf (fun v _ δ' => v = .int .i64 (idxP p gs) ∧ δ' = δf) := by
  obtain ⟨ad, c, rfl⟩ := hv.shape
  obtain ⟨_, hc, hb, hat, hok⟩ := hv.open
  refine Does.intro Tryz.func136 rfl Tryz.ntmps136 rfl fun w0 => ?_
  refine code_seq ?_
  refine code_region ?_
  refine op_v (v_assign rfl) rfl ?_
  refine ops_nil ?_
  refine post_next ?_
  refine code_seq ?_
  refine code_seq ?_
  refine code_region ?_
  refine op_v (v_move rfl) rfl ?_
  refine op_v (v_len Tryz.underlying22 rfl) rfl ?_
  refine op_v (v_move rfl) rfl ?_
  refine ops_nil ?_
  refine post_next ?_
  refine code_block ?_
  refine code_loop (fun m σ' I' δ' => ∃ k : Nat, m = gs.length - k ∧ k ≤ gs.length ∧ σ' = [(0, .slice ad gs.length c), (1, fv), (7, .int .i64 gs.length), (8, .int .i64 k)] ∧ I.le I' ∧ δ' = δf ∧ (gs.take k).any p = false) gs.length [(0, .slice ad gs.length c), (1, fv), (7, .int .i64 gs.length), (8, .int .i64 (0 : Nat))] ⟨0, rfl, Nat.zero_le _, rfl, Imm.le_refl _, rfl, rfl⟩ ⟨rfl, rfl, rfl, rfl, trivial⟩ ?_
  rintro m _ I0 _ ⟨k, rfl, hk, rfl, hI0, rfl, hp⟩
  refine code_seq ?_
  refine code_region ?_
  refine op_v (v_cmp rfl rfl rfl) rfl ?_
  refine ops_nil ?_
  refine post_next ?_
  refine code_seq ?_
  refine code_cond rfl (fun hc0 => ?_) (fun hc0 => ?_)
  · have hlt : k < gs.length := by simpa using hc0
    have hs1 := (hat k hlt).isSome
    refine code_skip ?_
    refine post_next ?_
    refine code_seq ?_
    refine code_block ?_
    refine code_seq ?_
    refine code_region ?_
    refine op_v (v_move rfl) rfl ?_
    refine op_v (v_assign rfl) rfl ?_
    refine ops_nil ?_
    refine post_next ?_
    refine code_seq ?_
    refine code_region ?_
    refine op_v (v_move rfl) rfl ?_
    refine op_v (v_move rfl) rfl ?_
    refine op_v (v_move rfl) rfl ?_
    refine op_v (v_indexA Tryz.underlying22 sz85 rfl rfl) rfl ?_
    refine op_v (v_loadI0 ty85 ((hat k hlt).mono hI0) rfl rfl rfl) rfl ?_
    refine op_fcall rfl rfl rfl ((hf _ gs[k] hI0)) Parts.all ?_
    rintro v16 I16 _ hI16 ⟨rfl, rfl⟩
    rw [List.append_nil]
    refine ops_nil ?_
    refine post_next ?_
    refine code_cond rfl (fun hc1 => ?_) (fun hc1 => ?_)
    · refine code_seq ?_
      refine code_region ?_
      refine op_v (v_move rfl) rfl ?_
      refine op_v (v_assign rfl) rfl ?_
      refine ops_nil ?_
      refine post_next ?_
      refine code_ret ?_
      refine post_ret_block ?_
      refine post_ret_then ?_
      refine post_ret_then ?_
      refine post_ret_block ?_
      refine post_ret_then ?_
      refine post_ret (rs := [.tmp 4]) rfl (List.Perm.refl _) (.cons (.tmp rfl) .nil) (List.Sublist.refl _) ?_
      exact ⟨by rw [idxP_hit p gs k hlt hp hc1]; rfl, rfl⟩
    · refine code_skip ?_
      refine post_out ?_
      refine post_next ?_
      refine code_region ?_
      refine op_v (v_addb rfl rfl rfl (by omega)) rfl ?_
      refine op_v (v_move rfl) rfl ?_
      refine ops_nil ?_
      refine post_again (gs.length - (k + 1)) [(0, .slice ad gs.length c), (1, fv), (7, .int .i64 gs.length), (8, .int .i64 (k + 1 : Nat))] (by omega) ⟨k + 1, rfl, hlt, rfl, Imm.le_trans hI0 hI16, rfl, any_take_succ hlt hp hc1⟩ ⟨rfl, rfl, rfl, rfl, trivial⟩
  · have hge : k = gs.length := by simp at hc0; omega
    subst hge
    rw [List.take_length] at hp
    refine code_exit ?_
    refine post_exit_then ?_
    refine post_exit_then ?_
    refine post_exit ?_
    refine post_next ?_
    refine code_seq ?_
    refine code_region ?_
    refine op_v (v_assign rfl) rfl ?_
    refine ops_nil ?_
    refine post_next ?_
    refine code_ret ?_
    refine post_ret (rs := [.tmp 4]) rfl (List.Perm.refl _) (.cons (.tmp rfl) .nil) (List.Sublist.refl _) ?_
    exact ⟨by rw [idxP_none p gs hp]; rfl, rfl⟩
theorem ContainsFunc_does {I : Imm} {v fv : Value} {gs : List Sy} {δf : List Ent} {p : Sy → Bool} (hv : RepG I v gs) (hf : ∀ J s, I.le J → FDoes Tryz.prog fv [s.v] J δf (fun v _ δ' => v = .bool (p s) ∧ δ' = δf)) :
    Does Tryz.prog 109 [v, fv] I δf (fun v _ δ' => v = .bool (gs.any p) ∧ δ' = δf) := by
  refine Does.intro Tryz.func109 rfl Tryz.ntmps109 rfl fun w0 => ?_
  refine code_seq ?_
  refine code_region ?_
  refine op_v (v_assign rfl) rfl ?_
  refine ops_nil ?_
  refine post_next ?_
  refine code_seq ?_
  refine code_region ?_
  refine op_v (v_move rfl) rfl ?_
  refine op_v (v_move rfl) rfl ?_
  refine op_call pl136 rfl rfl ((IndexFunc_does hv hf)) Parts.all ?_
  rintro v7 I7 _ hI7 ⟨rfl, rfl⟩
  rw [List.append_nil]
  refine op_v (v_cmp rfl rfl rfl) rfl ?_
  refine op_v (v_assign rfl) rfl ?_
  refine ops_nil ?_
  refine post_next ?_
  refine code_ret ?_
  refine post_ret (rs := [.tmp 4]) rfl (List.Perm.refl _) (.cons (.tmp rfl) .nil) (List.Sublist.refl _) ?_
  exact ⟨bool_b (by have := idxP_any p gs; cases h : gs.any p <;> simp_all), rfl⟩
theorem Check1_does {I : Imm} {b : Nat} {x s : Sy} :
    Does Tryz.prog 110 [s.v, .pointer (some ⟨b, 0, none⟩)] I [.box b 85 x.cs] (fun v _ δ' => v = .bool (nmEq s.name x.name) ∧ δ' = [.box b 85 x.cs]) := by
  refine Does.intro Tryz.func110 rfl Tryz.ntmps110 rfl fun w0 => ?_
  refine code_seq ?_
  refine code_region ?_
  refine o_box rfl rfl rfl (fun b2 => ?_)
  refine op_v (v_assign rfl) rfl ?_
  refine ops_nil ?_
  refine post_next ?_
  refine code_seq ?_
  refine code_region ?_
  refine op_v (v_fieldB 0 Tryz.underlying85 rfl rfl fz9 rfl) rfl ?_
  refine op_v (v_loadA ty9 rfl rfl) rfl ?_
  refine op_v (v_fieldB 0 Tryz.underlying85 rfl rfl fz9 rfl) rfl ?_
  refine op_v (v_loadA ty9 rfl rfl) rfl ?_
  refine op_v (v_eqs rfl rfl rfl) rfl ?_
  refine op_v (v_assign rfl) rfl ?_
  refine ops_nil ?_
  refine post_next ?_
  refine code_ret ?_
  refine post_ret (rs := [.tmp 3]) rfl (List.Perm.refl _) (.cons (.tmp rfl) .nil) (List.sublist_cons_self _ _) ?_
  exact ⟨rfl, rfl⟩
def fewG (gs : List Sy) : Bool := decide (gs.length ≤ 300) && gs.all fun s => decide (s.name.size ≤ 100)
theorem FewG_does {I : Imm} {v : Value} {gs : List Sy} (hv : RepG I v gs) :
    Does Tryz.prog 22 [v] I [] (fun v _ δ' => v = .bool (fewG gs) ∧ δ' = []) := by
  obtain ⟨ad, c, rfl⟩ := hv.shape
  obtain ⟨_, hc, hb, hat, hok⟩ := hv.open
  refine Does.intro Tryz.func22 rfl Tryz.ntmps22 rfl fun w0 => ?_
  refine code_seq ?_
  refine code_region ?_
  refine op_v (v_assign rfl) rfl ?_
  refine ops_nil ?_
  refine post_next ?_
  refine code_seq ?_
  refine code_seq ?_
  refine code_region ?_
  refine op_v (v_assign rfl) rfl ?_
  refine ops_nil ?_
  refine post_next ?_
  refine code_block ?_
  refine code_loop (fun m σ' I' δ' => ∃ k : Nat, m = gs.length - k ∧ k ≤ gs.length ∧ σ' = [(0, .slice ad gs.length c), (3, .int .i64 k)] ∧ I' = I ∧ δ' = [] ∧ (gs.take k).all (fun s => decide (s.name.size ≤ 100)) = true) gs.length [(0, .slice ad gs.length c), (3, .int .i64 (0 : Nat))] ⟨0, rfl, Nat.zero_le _, rfl, rfl, rfl, rfl⟩ ⟨rfl, rfl, trivial⟩ ?_
  rintro m _ _ _ ⟨k, rfl, hk, rfl, rfl, rfl, hp⟩
  refine code_seq ?_
  refine code_seq ?_
  refine code_region ?_
  refine op_v (v_move rfl) rfl ?_
  refine op_v (v_move rfl) rfl ?_
  refine op_v (v_len Tryz.underlying22 rfl) rfl ?_
  by_cases h7 : k < gs.length
  · have hs1 := (hat k h7).isSome
    refine op_v (v_cmptA rfl rfl rfl) rfl ?_
    refine op_v (v_move rfl) rfl ?_
    refine op_want rfl rfl ?_
    refine op_v (v_move rfl) rfl ?_
    refine op_want rfl rfl ?_
    refine op_v (v_len Tryz.underlying22 rfl) rfl ?_
    by_cases h11 : gs.length ≤ 300
    · first
        | (refine op_want rfl rfl ?_
           refine op_v (v_cmptA rfl rfl rfl) rfl ?_)
        | (refine op_skip rfl rfl (by simp [undef]) rfl ?_)
      refine op_v (v_pickt rfl rfl) rfl ?_
      refine ops_nil ?_
      refine post_next ?_
      refine code_cond_t rfl ?_
      refine code_skip ?_
      refine post_next ?_
      refine code_seq ?_
      refine code_block ?_
      refine code_seq ?_
      refine code_region ?_
      refine op_v (v_move rfl) rfl ?_
      refine op_v (v_move rfl) rfl ?_
      refine op_v (v_indexA Tryz.underlying22 sz85 rfl rfl) rfl ?_
      refine op_v (v_fieldI 0 Tryz.underlying85 rfl rfl fz9 rfl (by assumption)) rfl ?_
      refine op_v (v_loadI0 ty9 (hat k h7) rfl rfl rfl) rfl ?_
      refine op_v (v_lens Tryz.underlying9 rfl) rfl ?_
      refine op_v (v_cmp rfl rfl rfl) rfl ?_
      refine ops_nil ?_
      refine post_next ?_
      refine code_cond rfl (fun hc1 => ?_) (fun hc1 => ?_)
      · have h21 : 100 < gs[k].name.size := by have h := hc1; simp at h; omega
        refine code_seq ?_
        refine code_region ?_
        refine op_v (v_assign rfl) rfl ?_
        refine ops_nil ?_
        refine post_next ?_
        refine code_ret ?_
        refine post_ret_block ?_
        refine post_ret_then ?_
        refine post_ret_then ?_
        refine post_ret_block ?_
        refine post_ret_then ?_
        refine post_ret (rs := [.tmp 2]) rfl (List.Perm.refl _) (.cons (.tmp rfl) .nil) (List.nil_sublist _) ?_
        exact ⟨bool_b (by symm; rw [fewG, Bool.and_eq_false_iff]; right; rw [List.all_eq_false]; exact ⟨gs[k], List.getElem_mem _, by simp; omega⟩), rfl⟩
      · have h21 : ¬ 100 < gs[k].name.size := by have h := hc1; simp at h; omega
        refine code_skip ?_
        refine post_out ?_
        refine post_next ?_
        refine code_region ?_
        refine op_v (v_move rfl) rfl ?_
        refine op_v (v_addb rfl rfl rfl (by omega)) rfl ?_
        refine op_v (v_assign rfl) rfl ?_
        refine ops_nil ?_
        refine post_again (gs.length - (k + 1)) [(0, .slice ad gs.length c), (3, .int .i64 (k + 1 : Nat))] (by omega) ⟨k + 1, rfl, h7, rfl, rfl, rfl, ?_⟩ ⟨rfl, rfl, trivial⟩
        rw [List.take_succ_eq_append_getElem h7, List.all_append, hp]; simp; omega
    · first
        | (refine op_want rfl rfl ?_
           refine op_v (v_cmpfA rfl rfl rfl) rfl ?_)
        | (refine op_skip rfl rfl (by simp [undef]) rfl ?_)
      refine op_v (v_pickt rfl rfl) rfl ?_
      refine ops_nil ?_
      refine post_next ?_
      refine code_cond_f rfl ?_
      refine code_exit ?_
      refine post_exit_then ?_
      refine post_exit_then ?_
      refine post_exit ?_
      refine post_next ?_
      refine code_seq ?_
      refine code_region ?_
      refine op_v (v_move rfl) rfl ?_
      refine op_v (v_len Tryz.underlying22 rfl) rfl ?_
      refine op_v (v_cmpfA rfl rfl rfl) rfl ?_
      refine op_v (v_assign rfl) rfl ?_
      refine ops_nil ?_
      refine post_next ?_
      refine code_ret ?_
      refine post_ret (rs := [.tmp 2]) rfl (List.Perm.refl _) (.cons (.tmp rfl) .nil) (List.nil_sublist _) ?_
      exact ⟨bool_b (by simp [fewG, h11]), rfl⟩
  · refine op_v (v_cmpfA rfl rfl rfl) rfl ?_
    refine op_v (v_move rfl) rfl ?_
    refine op_skip rfl rfl (by simp [undef]) rfl ?_
    refine op_skip rfl rfl (by simp [undef]) rfl ?_
    refine op_skip rfl rfl (by simp [undef]) rfl ?_
    refine op_v (v_pickf rfl rfl) rfl ?_
    refine ops_nil ?_
    refine post_next ?_
    refine code_cond_f rfl ?_
    refine code_exit ?_
    refine post_exit_then ?_
    refine post_exit_then ?_
    refine post_exit ?_
    refine post_next ?_
    refine code_seq ?_
    refine code_region ?_
    refine op_v (v_move rfl) rfl ?_
    refine op_v (v_len Tryz.underlying22 rfl) rfl ?_
    by_cases h24 : gs.length ≤ 300
    · refine op_v (v_cmptA rfl rfl rfl) rfl ?_
      refine op_v (v_assign rfl) rfl ?_
      refine ops_nil ?_
      refine post_next ?_
      refine code_ret ?_
      refine post_ret (rs := [.tmp 2]) rfl (List.Perm.refl _) (.cons (.tmp rfl) .nil) (List.nil_sublist _) ?_
      have hge : k = gs.length := by omega
      rw [hge, List.take_length] at hp
      exact ⟨bool_b (by simp only [fewG, hp]; simp [h24]), rfl⟩
    · refine op_v (v_cmpfA rfl rfl rfl) rfl ?_
      refine op_v (v_assign rfl) rfl ?_
      refine ops_nil ?_
      refine post_next ?_
      refine code_ret ?_
      refine post_ret (rs := [.tmp 2]) rfl (List.Perm.refl _) (.cons (.tmp rfl) .nil) (List.nil_sublist _) ?_
      exact ⟨bool_b (by simp [fewG, h24]), rfl⟩
end Go.Proofs.YtdbadicpbmndbaaGreat
/- Walks: a signature's rightness, by the program. -/
set_option linter.unusedVariables false
set_option linter.unusedSimpArgs false
/- short -/
namespace Go.Proofs.YtdbadicpbmndbaaGreat
open Go Lg

def truthS : Sy := ⟨⟨#[36, 116, 114, 117, 101]⟩, 0, 1, true⟩
def badS (pre : List Sy) (x : Sy) : Bool := nmEq x.name ⟨#[]⟩ || (decide (64 < x.name.size) || ((pre.any fun s => nmEq s.name x.name) || (decide (x.ar < 0) || (decide (8 < x.ar) || (decide (x.wt < 1) || decide (1000 < x.wt))))))
def goodL : List Sy → List Sy → Bool
  | _, [] => true
  | pre, x :: r => !badS pre x && goodL (pre ++ [x]) r
def rightG (gs : List Sy) : Bool := match gs with
  | [] => false
  | x :: r => decide ((x :: r).length ≤ 256) && (syEq x truthS && goodL [] (x :: r))
def chkG (gs : List Sy) : Int := if rightG gs = true then 0 else 1
theorem goodL_at : ∀ (pre gs : List Sy), goodL pre gs = true ↔ ∀ i (h : i < gs.length), badS (pre ++ gs.take i) gs[i] = false
  | pre, [] => by simp [goodL]
  | pre, x :: r => by
    simp only [goodL, Bool.and_eq_true, Bool.not_eq_true', goodL_at (pre ++ [x]) r]
    constructor
    · rintro ⟨h1, h2⟩ i hi
      cases i with
      | zero => simpa using h1
      | succ i => have := h2 i (by simpa using hi); simpa using this
    · intro h
      have h0 : badS pre x = false := by
        have := h 0 (by simp)
        simp only [List.take_zero, List.append_nil, List.getElem_cons_zero] at this
        exact this
      refine ⟨h0, fun i hi => ?_⟩
      have := h (i + 1) (by simpa using hi)
      simpa using this
theorem rightG_len {gs : List Sy} (h : rightG gs = true) : 1 ≤ gs.length ∧ gs.length ≤ 256 := by
  cases gs with
  | nil => simp [rightG] at h
  | cons x r => simp only [rightG, Bool.and_eq_true, decide_eq_true_eq] at h; exact ⟨by simp, h.1⟩
theorem rightG_at {gs : List Sy} (h : rightG gs = true) (i : Nat) (hi : i < gs.length) : badS (gs.take i) gs[i] = false := by
  cases gs with
  | nil => simp at hi
  | cons x r =>
    simp only [rightG, Bool.and_eq_true] at h
    have := (goodL_at [] (x :: r)).1 h.2.2 i hi
    simpa using this
theorem rightG_of {gs : List Sy} (h0 : 0 < gs.length) (h1 : gs.length ≤ 256) (h2 : syEq (gs[0]'h0) truthS = true) (h3 : ∀ i (h : i < gs.length), badS (gs.take i) gs[i] = false) : rightG gs = true := by
  cases gs with
  | nil => simp at h0
  | cons x r =>
    simp only [rightG, Bool.and_eq_true, decide_eq_true_eq]
    exact ⟨h1, by simpa using h2, (goodL_at [] (x :: r)).2 (fun i hi => by simpa using h3 i hi)⟩
theorem chkG_bad {gs : List Sy} (i : Nat) (hi : i < gs.length) (h : badS (gs.take i) gs[i] = true) : chkG gs = 1 := by
  unfold chkG
  rw [if_neg]
  intro hr
  rw [rightG_at hr i hi] at h
  cases h
theorem chkG_head {gs : List Sy} (h0 : 0 < gs.length) (h : ¬ syEq (gs[0]'h0) truthS = true) : chkG gs = 1 := by
  unfold chkG
  rw [if_neg]
  intro hr
  cases gs with
  | nil => simp at h0
  | cons x r => simp only [rightG, Bool.and_eq_true] at hr; exact h (by simpa using hr.2.1)
theorem chkG_len {gs : List Sy} (h : gs.length < 1 ∨ 256 < gs.length) : chkG gs = 1 := by
  unfold chkG
  rw [if_neg]
  intro hr
  have := rightG_len hr
  omega
theorem chkG_ok {gs : List Sy} (h0 : 0 < gs.length) (h1 : gs.length ≤ 256) (h2 : syEq (gs[0]'h0) truthS = true) (h3 : ∀ i (h : i < gs.length), badS (gs.take i) gs[i] = false) : chkG gs = 0 := by
  unfold chkG; rw [if_pos (rightG_of h0 h1 h2 h3)]

theorem GCheck_does {I : Imm} {v : Value} {gs : List Sy} (hv : RepG I v gs) :
    Does Tryz.prog 67 [v] I [] (fun v _ δ' => v = .int .i64 (chkG gs) ∧ δ' = []) := by
  obtain ⟨ad, c, rfl⟩ := hv.shape
  obtain ⟨_, hc, hb, hat, hok⟩ := hv.open
  refine Does.intro Tryz.func67 rfl Tryz.ntmps67 rfl fun w0 => ?_
  refine code_seq ?_
  refine code_region ?_
  refine op_v (v_assign rfl) rfl ?_
  refine ops_nil ?_
  refine post_next ?_
  refine code_seq ?_
  refine code_seq ?_
  refine code_region ?_
  refine op_v (v_move rfl) rfl ?_
  refine op_v (v_len Tryz.underlying22 rfl) rfl ?_
  by_cases h8 : gs.length < 1
  · refine op_v (v_cmptA rfl rfl rfl) rfl ?_
    refine op_v (v_move rfl) rfl ?_
    refine op_skip rfl rfl (by simp [undef]) rfl ?_
    refine op_skip rfl rfl (by simp [undef]) rfl ?_
    refine op_skip rfl rfl (by simp [undef]) rfl ?_
    refine op_v (v_pickt rfl rfl) rfl ?_
    refine op_v (v_move rfl) rfl ?_
    refine op_skip rfl rfl (by simp [undef]) rfl ?_
    refine op_skip rfl rfl (by simp [undef]) rfl ?_
    refine op_skip rfl rfl (by simp [undef]) rfl ?_
    refine op_skip rfl rfl (by simp [undef]) rfl ?_
    refine op_skip rfl rfl (by simp [undef]) rfl ?_
    refine op_v (v_pickt rfl rfl) rfl ?_
    refine ops_nil ?_
    refine post_next ?_
    refine code_cond_t rfl ?_
    refine code_seq ?_
    refine code_region ?_
    refine op_v (v_assign rfl) rfl ?_
    refine ops_nil ?_
    refine post_next ?_
    refine code_ret ?_
    refine post_ret_then ?_
    refine post_ret (rs := [.tmp 2]) rfl (List.Perm.refl _) (.cons (.tmp rfl) .nil) (List.nil_sublist _) ?_
    exact ⟨by rw [chkG_len (.inl h8)]; rfl, rfl⟩
  · refine op_v (v_cmpfA rfl rfl rfl) rfl ?_
    refine op_v (v_move rfl) rfl ?_
    refine op_want rfl rfl ?_
    refine op_v (v_move rfl) rfl ?_
    refine op_want rfl rfl ?_
    refine op_v (v_len Tryz.underlying22 rfl) rfl ?_
    by_cases h12 : 256 < gs.length
    · first
        | (refine op_want rfl rfl ?_
           refine op_v (v_cmptA rfl rfl rfl) rfl ?_)
        | (refine op_skip rfl rfl (by simp [undef]) rfl ?_)
      refine op_v (v_pickf rfl rfl) rfl ?_
      refine op_v (v_move rfl) rfl ?_
      refine op_skip rfl rfl (by simp [undef]) rfl ?_
      refine op_skip rfl rfl (by simp [undef]) rfl ?_
      refine op_skip rfl rfl (by simp [undef]) rfl ?_
      refine op_skip rfl rfl (by simp [undef]) rfl ?_
      refine op_skip rfl rfl (by simp [undef]) rfl ?_
      refine op_v (v_pickt rfl rfl) rfl ?_
      refine ops_nil ?_
      refine post_next ?_
      refine code_cond_t rfl ?_
      refine code_seq ?_
      refine code_region ?_
      refine op_v (v_assign rfl) rfl ?_
      refine ops_nil ?_
      refine post_next ?_
      refine code_ret ?_
      refine post_ret_then ?_
      refine post_ret (rs := [.tmp 2]) rfl (List.Perm.refl _) (.cons (.tmp rfl) .nil) (List.nil_sublist _) ?_
      exact ⟨by rw [chkG_len (.inr h12)]; rfl, rfl⟩
    · first
        | (refine op_want rfl rfl ?_
           refine op_v (v_cmpfA rfl rfl rfl) rfl ?_)
        | (refine op_skip rfl rfl (by simp [undef]) rfl ?_)
      refine op_v (v_pickf rfl rfl) rfl ?_
      refine op_v (v_move rfl) rfl ?_
      refine op_want rfl rfl ?_
      refine op_v (v_move rfl) rfl ?_
      have h0 : 0 < gs.length := by omega
      have hs0 : ad.isSome = true := (hat 0 h0).isSome
      first
        | (refine op_want rfl rfl ?_
           refine op_v (v_indexA Tryz.underlying22 sz85 rfl rfl) rfl ?_)
        | (refine op_skip rfl rfl (by simp [undef]) rfl ?_)
      refine op_want rfl rfl ?_
      refine op_v (v_loadI0 (m := 0) ty85 (by have := hat 0 h0; simpa using this) rfl rfl rfl) rfl ?_
      refine op_want rfl rfl ?_
      refine op_v (v_build bl85 rfl rfl) rfl ?_
      by_cases h19 : syEq (gs[0]'h0) truthS = true
      · refine op_want rfl rfl ?_
        refine op_v (v_eqSy (a := gs[0]'h0) (b := truthS) (z := false) syTy rfl rfl (by simp [cmpG, h19])) rfl ?_
        refine op_v (v_pickf rfl rfl) rfl ?_
        refine ops_nil ?_
        refine post_next ?_
        refine code_cond_f rfl ?_
        refine code_skip ?_
        refine post_next ?_
        refine code_seq ?_
        refine code_seq ?_
        refine code_region ?_
        refine op_v (v_move rfl) rfl ?_
        refine op_v (v_len Tryz.underlying22 rfl) rfl ?_
        refine op_v (v_move rfl) rfl ?_
        refine ops_nil ?_
        refine post_next ?_
        refine code_block ?_
        refine code_loop (fun m σ' I' δ' => ∃ k : Nat, m = gs.length - k ∧ k ≤ gs.length ∧ σ' = [(0, .slice ad gs.length c), (21, .slice ad gs.length c), (22, .int .i64 gs.length), (23, .int .i64 k)] ∧ I.le I' ∧ δ' = [] ∧ ∀ i (h : i < gs.length), i < k → badS (gs.take i) gs[i] = false) gs.length [(0, .slice ad gs.length c), (21, .slice ad gs.length c), (22, .int .i64 gs.length), (23, .int .i64 (0 : Nat))] ⟨0, rfl, Nat.zero_le _, rfl, Imm.le_refl _, rfl, fun i _ h => by omega⟩ ⟨rfl, rfl, rfl, rfl, trivial⟩ ?_
        rintro m _ I0 _ ⟨k, rfl, hk, rfl, hI0, rfl, hp⟩
        refine code_seq ?_
        refine code_region ?_
        refine op_v (v_cmp rfl rfl rfl) rfl ?_
        refine ops_nil ?_
        refine post_next ?_
        refine code_seq ?_
        refine code_cond rfl (fun hc1 => ?_) (fun hc1 => ?_)
        · have hlt : k < gs.length := by simpa using hc1
          have hs1 := (hat k hlt).isSome
          refine code_skip ?_
          refine post_next ?_
          refine code_seq ?_
          refine code_block ?_
          refine code_seq ?_
          refine code_region ?_
          refine op_v (v_move rfl) rfl ?_
          refine op_v (v_indexA Tryz.underlying22 sz85 rfl rfl) rfl ?_
          refine op_v (v_loadI0 ty85 ((hat k hlt).mono hI0) rfl rfl rfl) rfl ?_
          refine o_alloc z85 rfl rfl (fun b4 => ?_)
          refine op_v (v_assign rfl) rfl ?_
          refine o_store ty85 rfl rfl rfl rfl rfl (by repeat (first | exact Swap.here | apply Swap.there)) rfl ?_
          refine ops_nil ?_
          refine post_next ?_
          refine code_seq ?_
          refine code_region ?_
          refine op_v (v_move rfl) rfl ?_
          refine op_v (v_move rfl) rfl ?_
          refine op_v (v_sliceTo Tryz.underlying22 sz85 rfl rfl (by omega)) rfl ?_
          refine op_v (v_makeFunc rfl rfl) rfl ?_
          refine op_call pl109 rfl rfl ((ContainsFunc_does (δf := [.box b4 85 gs[k].cs]) ((RepG.take hv (Nat.le_of_lt hlt)).mono hI0) (fun J s _ => FDoes.ofFunc (caps := [_]) pl110 Check1_does))) Parts.all ?_
          rintro v32 I32 _ hI32 ⟨rfl, rfl⟩
          refine op_v (v_assign rfl) rfl ?_
          refine ops_nil ?_
          refine post_next ?_
          refine code_seq ?_
          refine code_region ?_
          refine op_v (v_fieldB 0 Tryz.underlying85 rfl rfl fz9 rfl) rfl ?_
          refine op_v (v_loadA ty9 rfl rfl) rfl ?_
          by_cases h35 : nmEq gs[k].name ⟨#[]⟩ = true
          · refine op_v (v_eqs (z := true) rfl rfl (by simpa [cmpS, nmEq] using h35)) rfl ?_
            refine op_v (v_move rfl) rfl ?_
            refine op_skip rfl rfl (by simp [undef]) rfl ?_
            refine op_skip rfl rfl (by simp [undef]) rfl ?_
            refine op_skip rfl rfl (by simp [undef]) rfl ?_
            refine op_skip rfl rfl (by simp [undef]) rfl ?_
            refine op_v (v_pickt rfl rfl) rfl ?_
            refine op_v (v_move rfl) rfl ?_
            refine op_skip rfl rfl (by simp [undef]) rfl ?_
            refine op_v (v_pickt rfl rfl) rfl ?_
            refine op_v (v_move rfl) rfl ?_
            refine op_skip rfl rfl (by simp [undef]) rfl ?_
            refine op_skip rfl rfl (by simp [undef]) rfl ?_
            refine op_skip rfl rfl (by simp [undef]) rfl ?_
            refine op_v (v_pickt rfl rfl) rfl ?_
            refine op_v (v_move rfl) rfl ?_
            refine op_skip rfl rfl (by simp [undef]) rfl ?_
            refine op_skip rfl rfl (by simp [undef]) rfl ?_
            refine op_skip rfl rfl (by simp [undef]) rfl ?_
            refine op_v (v_pickt rfl rfl) rfl ?_
            refine op_v (v_move rfl) rfl ?_
            refine op_skip rfl rfl (by simp [undef]) rfl ?_
            refine op_skip rfl rfl (by simp [undef]) rfl ?_
            refine op_skip rfl rfl (by simp [undef]) rfl ?_
            refine op_v (v_pickt rfl rfl) rfl ?_
            refine op_v (v_move rfl) rfl ?_
            refine op_skip rfl rfl (by simp [undef]) rfl ?_
            refine op_skip rfl rfl (by simp [undef]) rfl ?_
            refine op_skip rfl rfl (by simp [undef]) rfl ?_
            refine op_v (v_pickt rfl rfl) rfl ?_
            refine ops_nil ?_
            refine post_next ?_
            refine code_cond_t rfl ?_
            refine code_seq ?_
            refine code_region ?_
            refine op_v (v_assign rfl) rfl ?_
            refine ops_nil ?_
            refine post_next ?_
            refine code_ret ?_
            refine post_ret_block ?_
            refine post_ret_then ?_
            refine post_ret_then ?_
            refine post_ret_block ?_
            refine post_ret_then ?_
            refine post_ret (rs := [.tmp 2]) rfl (List.Perm.refl _) (.cons (.tmp rfl) .nil) (List.nil_sublist _) ?_
            exact ⟨by rw [chkG_bad k hlt (by unfold badS; rw [h35]; rfl)]; rfl, rfl⟩
          · refine op_v (v_eqs (z := false) rfl rfl (by simpa [cmpS, nmEq] using h35)) rfl ?_
            refine op_v (v_move rfl) rfl ?_
            first
              | (refine op_want rfl rfl ?_
                 refine op_v (v_fieldB 0 Tryz.underlying85 rfl rfl fz9 rfl) rfl ?_)
              | (refine op_skip rfl rfl (by simp [undef]) rfl ?_)
            refine op_want rfl rfl ?_
            refine op_v (v_loadA ty9 rfl rfl) rfl ?_
            refine op_want rfl rfl ?_
            refine op_v (v_lens Tryz.underlying9 rfl) rfl ?_
            by_cases h40 : 64 < gs[k].name.size
            · first
                | (refine op_want rfl rfl ?_
                   refine op_v (v_cmptA rfl rfl rfl) rfl ?_)
                | (refine op_skip rfl rfl (by simp [undef]) rfl ?_)
              refine op_v (v_pickf rfl rfl) rfl ?_
              refine op_v (v_move rfl) rfl ?_
              refine op_skip rfl rfl (by simp [undef]) rfl ?_
              refine op_v (v_pickt rfl rfl) rfl ?_
              refine op_v (v_move rfl) rfl ?_
              refine op_skip rfl rfl (by simp [undef]) rfl ?_
              refine op_skip rfl rfl (by simp [undef]) rfl ?_
              refine op_skip rfl rfl (by simp [undef]) rfl ?_
              refine op_v (v_pickt rfl rfl) rfl ?_
              refine op_v (v_move rfl) rfl ?_
              refine op_skip rfl rfl (by simp [undef]) rfl ?_
              refine op_skip rfl rfl (by simp [undef]) rfl ?_
              refine op_skip rfl rfl (by simp [undef]) rfl ?_
              refine op_v (v_pickt rfl rfl) rfl ?_
              refine op_v (v_move rfl) rfl ?_
              refine op_skip rfl rfl (by simp [undef]) rfl ?_
              refine op_skip rfl rfl (by simp [undef]) rfl ?_
              refine op_skip rfl rfl (by simp [undef]) rfl ?_
              refine op_v (v_pickt rfl rfl) rfl ?_
              refine op_v (v_move rfl) rfl ?_
              refine op_skip rfl rfl (by simp [undef]) rfl ?_
              refine op_skip rfl rfl (by simp [undef]) rfl ?_
              refine op_skip rfl rfl (by simp [undef]) rfl ?_
              refine op_v (v_pickt rfl rfl) rfl ?_
              refine ops_nil ?_
              refine post_next ?_
              refine code_cond_t rfl ?_
              refine code_seq ?_
              refine code_region ?_
              refine op_v (v_assign rfl) rfl ?_
              refine ops_nil ?_
              refine post_next ?_
              refine code_ret ?_
              refine post_ret_block ?_
              refine post_ret_then ?_
              refine post_ret_then ?_
              refine post_ret_block ?_
              refine post_ret_then ?_
              refine post_ret (rs := [.tmp 2]) rfl (List.Perm.refl _) (.cons (.tmp rfl) .nil) (List.nil_sublist _) ?_
              exact ⟨by rw [chkG_bad k hlt (by simp [badS, h40])]; rfl, rfl⟩
            · first
                | (refine op_want rfl rfl ?_
                   refine op_v (v_cmpfA rfl rfl rfl) rfl ?_)
                | (refine op_skip rfl rfl (by simp [undef]) rfl ?_)
              refine op_v (v_pickf rfl rfl) rfl ?_
              refine op_v (v_move rfl) rfl ?_
              by_cases h43 : ((gs.take k).any fun s => nmEq s.name gs[k].name) = true
              · rw [h43]
                refine op_want rfl rfl ?_
                refine op_v (v_move rfl) rfl ?_
                refine op_v (v_pickf rfl rfl) rfl ?_
                refine op_v (v_move rfl) rfl ?_
                refine op_skip rfl rfl (by simp [undef]) rfl ?_
                refine op_skip rfl rfl (by simp [undef]) rfl ?_
                refine op_skip rfl rfl (by simp [undef]) rfl ?_
                refine op_v (v_pickt rfl rfl) rfl ?_
                refine op_v (v_move rfl) rfl ?_
                refine op_skip rfl rfl (by simp [undef]) rfl ?_
                refine op_skip rfl rfl (by simp [undef]) rfl ?_
                refine op_skip rfl rfl (by simp [undef]) rfl ?_
                refine op_v (v_pickt rfl rfl) rfl ?_
                refine op_v (v_move rfl) rfl ?_
                refine op_skip rfl rfl (by simp [undef]) rfl ?_
                refine op_skip rfl rfl (by simp [undef]) rfl ?_
                refine op_skip rfl rfl (by simp [undef]) rfl ?_
                refine op_v (v_pickt rfl rfl) rfl ?_
                refine op_v (v_move rfl) rfl ?_
                refine op_skip rfl rfl (by simp [undef]) rfl ?_
                refine op_skip rfl rfl (by simp [undef]) rfl ?_
                refine op_skip rfl rfl (by simp [undef]) rfl ?_
                refine op_v (v_pickt rfl rfl) rfl ?_
                refine ops_nil ?_
                refine post_next ?_
                refine code_cond_t rfl ?_
                refine code_seq ?_
                refine code_region ?_
                refine op_v (v_assign rfl) rfl ?_
                refine ops_nil ?_
                refine post_next ?_
                refine code_ret ?_
                refine post_ret_block ?_
                refine post_ret_then ?_
                refine post_ret_then ?_
                refine post_ret_block ?_
                refine post_ret_then ?_
                refine post_ret (rs := [.tmp 2]) rfl (List.Perm.refl _) (.cons (.tmp rfl) .nil) (List.nil_sublist _) ?_
                exact ⟨by rw [chkG_bad k hlt (by unfold badS; rw [h43]; simp)]; rfl, rfl⟩
              · have h43' : ((gs.take k).any fun s => nmEq s.name gs[k].name) = false := by simpa using h43
                rw [h43']
                refine op_want rfl rfl ?_
                refine op_v (v_move rfl) rfl ?_
                refine op_v (v_pickf rfl rfl) rfl ?_
                refine op_v (v_move rfl) rfl ?_
                first
                  | (refine op_want rfl rfl ?_
                     refine op_v (v_fieldB 1 Tryz.underlying85 rfl rfl fz3 rfl) rfl ?_)
                  | (refine op_skip rfl rfl (by simp [undef]) rfl ?_)
                refine op_want rfl rfl ?_
                refine op_v (v_loadA ty3 rfl rfl) rfl ?_
                by_cases h48 : gs[k].ar < 0
                · first
                    | (refine op_want rfl rfl ?_
                       refine op_v (v_cmptA rfl rfl rfl) rfl ?_)
                    | (refine op_skip rfl rfl (by simp [undef]) rfl ?_)
                  refine op_v (v_pickf rfl rfl) rfl ?_
                  refine op_v (v_move rfl) rfl ?_
                  refine op_skip rfl rfl (by simp [undef]) rfl ?_
                  refine op_skip rfl rfl (by simp [undef]) rfl ?_
                  refine op_skip rfl rfl (by simp [undef]) rfl ?_
                  refine op_v (v_pickt rfl rfl) rfl ?_
                  refine op_v (v_move rfl) rfl ?_
                  refine op_skip rfl rfl (by simp [undef]) rfl ?_
                  refine op_skip rfl rfl (by simp [undef]) rfl ?_
                  refine op_skip rfl rfl (by simp [undef]) rfl ?_
                  refine op_v (v_pickt rfl rfl) rfl ?_
                  refine op_v (v_move rfl) rfl ?_
                  refine op_skip rfl rfl (by simp [undef]) rfl ?_
                  refine op_skip rfl rfl (by simp [undef]) rfl ?_
                  refine op_skip rfl rfl (by simp [undef]) rfl ?_
                  refine op_v (v_pickt rfl rfl) rfl ?_
                  refine ops_nil ?_
                  refine post_next ?_
                  refine code_cond_t rfl ?_
                  refine code_seq ?_
                  refine code_region ?_
                  refine op_v (v_assign rfl) rfl ?_
                  refine ops_nil ?_
                  refine post_next ?_
                  refine code_ret ?_
                  refine post_ret_block ?_
                  refine post_ret_then ?_
                  refine post_ret_then ?_
                  refine post_ret_block ?_
                  refine post_ret_then ?_
                  refine post_ret (rs := [.tmp 2]) rfl (List.Perm.refl _) (.cons (.tmp rfl) .nil) (List.nil_sublist _) ?_
                  exact ⟨by rw [chkG_bad k hlt (by simp [badS, h48])]; rfl, rfl⟩
                · first
                    | (refine op_want rfl rfl ?_
                       refine op_v (v_cmpfA rfl rfl rfl) rfl ?_)
                    | (refine op_skip rfl rfl (by simp [undef]) rfl ?_)
                  refine op_v (v_pickf rfl rfl) rfl ?_
                  refine op_v (v_move rfl) rfl ?_
                  first
                    | (refine op_want rfl rfl ?_
                       refine op_v (v_fieldB 1 Tryz.underlying85 rfl rfl fz3 rfl) rfl ?_)
                    | (refine op_skip rfl rfl (by simp [undef]) rfl ?_)
                  refine op_want rfl rfl ?_
                  refine op_v (v_loadA ty3 rfl rfl) rfl ?_
                  by_cases h53 : 8 < gs[k].ar
                  · first
                      | (refine op_want rfl rfl ?_
                         refine op_v (v_cmptA rfl rfl rfl) rfl ?_)
                      | (refine op_skip rfl rfl (by simp [undef]) rfl ?_)
                    refine op_v (v_pickf rfl rfl) rfl ?_
                    refine op_v (v_move rfl) rfl ?_
                    refine op_skip rfl rfl (by simp [undef]) rfl ?_
                    refine op_skip rfl rfl (by simp [undef]) rfl ?_
                    refine op_skip rfl rfl (by simp [undef]) rfl ?_
                    refine op_v (v_pickt rfl rfl) rfl ?_
                    refine op_v (v_move rfl) rfl ?_
                    refine op_skip rfl rfl (by simp [undef]) rfl ?_
                    refine op_skip rfl rfl (by simp [undef]) rfl ?_
                    refine op_skip rfl rfl (by simp [undef]) rfl ?_
                    refine op_v (v_pickt rfl rfl) rfl ?_
                    refine ops_nil ?_
                    refine post_next ?_
                    refine code_cond_t rfl ?_
                    refine code_seq ?_
                    refine code_region ?_
                    refine op_v (v_assign rfl) rfl ?_
                    refine ops_nil ?_
                    refine post_next ?_
                    refine code_ret ?_
                    refine post_ret_block ?_
                    refine post_ret_then ?_
                    refine post_ret_then ?_
                    refine post_ret_block ?_
                    refine post_ret_then ?_
                    refine post_ret (rs := [.tmp 2]) rfl (List.Perm.refl _) (.cons (.tmp rfl) .nil) (List.nil_sublist _) ?_
                    exact ⟨by rw [chkG_bad k hlt (by simp [badS, h53])]; rfl, rfl⟩
                  · first
                      | (refine op_want rfl rfl ?_
                         refine op_v (v_cmpfA rfl rfl rfl) rfl ?_)
                      | (refine op_skip rfl rfl (by simp [undef]) rfl ?_)
                    refine op_v (v_pickf rfl rfl) rfl ?_
                    refine op_v (v_move rfl) rfl ?_
                    first
                      | (refine op_want rfl rfl ?_
                         refine op_v (v_fieldB 2 Tryz.underlying85 rfl rfl fz3 rfl) rfl ?_)
                      | (refine op_skip rfl rfl (by simp [undef]) rfl ?_)
                    refine op_want rfl rfl ?_
                    refine op_v (v_loadA ty3 rfl rfl) rfl ?_
                    by_cases h58 : gs[k].wt < 1
                    · first
                        | (refine op_want rfl rfl ?_
                           refine op_v (v_cmptA rfl rfl rfl) rfl ?_)
                        | (refine op_skip rfl rfl (by simp [undef]) rfl ?_)
                      refine op_v (v_pickf rfl rfl) rfl ?_
                      refine op_v (v_move rfl) rfl ?_
                      refine op_skip rfl rfl (by simp [undef]) rfl ?_
                      refine op_skip rfl rfl (by simp [undef]) rfl ?_
                      refine op_skip rfl rfl (by simp [undef]) rfl ?_
                      refine op_v (v_pickt rfl rfl) rfl ?_
                      refine ops_nil ?_
                      refine post_next ?_
                      refine code_cond_t rfl ?_
                      refine code_seq ?_
                      refine code_region ?_
                      refine op_v (v_assign rfl) rfl ?_
                      refine ops_nil ?_
                      refine post_next ?_
                      refine code_ret ?_
                      refine post_ret_block ?_
                      refine post_ret_then ?_
                      refine post_ret_then ?_
                      refine post_ret_block ?_
                      refine post_ret_then ?_
                      refine post_ret (rs := [.tmp 2]) rfl (List.Perm.refl _) (.cons (.tmp rfl) .nil) (List.nil_sublist _) ?_
                      exact ⟨by rw [chkG_bad k hlt (by simp [badS, h58])]; rfl, rfl⟩
                    · first
                        | (refine op_want rfl rfl ?_
                           refine op_v (v_cmpfA rfl rfl rfl) rfl ?_)
                        | (refine op_skip rfl rfl (by simp [undef]) rfl ?_)
                      refine op_v (v_pickf rfl rfl) rfl ?_
                      refine op_v (v_move rfl) rfl ?_
                      first
                        | (refine op_want rfl rfl ?_
                           refine op_v (v_fieldB 2 Tryz.underlying85 rfl rfl fz3 rfl) rfl ?_)
                        | (refine op_skip rfl rfl (by simp [undef]) rfl ?_)
                      refine op_want rfl rfl ?_
                      refine op_v (v_loadA ty3 rfl rfl) rfl ?_
                      by_cases h63 : 1000 < gs[k].wt
                      · first
                          | (refine op_want rfl rfl ?_
                             refine op_v (v_cmptA rfl rfl rfl) rfl ?_)
                          | (refine op_skip rfl rfl (by simp [undef]) rfl ?_)
                        refine op_v (v_pickf rfl rfl) rfl ?_
                        refine ops_nil ?_
                        refine post_next ?_
                        refine code_cond_t rfl ?_
                        refine code_seq ?_
                        refine code_region ?_
                        refine op_v (v_assign rfl) rfl ?_
                        refine ops_nil ?_
                        refine post_next ?_
                        refine code_ret ?_
                        refine post_ret_block ?_
                        refine post_ret_then ?_
                        refine post_ret_then ?_
                        refine post_ret_block ?_
                        refine post_ret_then ?_
                        refine post_ret (rs := [.tmp 2]) rfl (List.Perm.refl _) (.cons (.tmp rfl) .nil) (List.nil_sublist _) ?_
                        exact ⟨by rw [chkG_bad k hlt (by simp [badS, h63])]; rfl, rfl⟩
                      · first
                          | (refine op_want rfl rfl ?_
                             refine op_v (v_cmpfA rfl rfl rfl) rfl ?_)
                          | (refine op_skip rfl rfl (by simp [undef]) rfl ?_)
                        refine op_v (v_pickf rfl rfl) rfl ?_
                        refine ops_nil ?_
                        refine post_next ?_
                        refine code_cond_f rfl ?_
                        refine code_skip ?_
                        refine post_out ?_
                        refine post_next ?_
                        refine code_region ?_
                        refine op_v (v_addb rfl rfl rfl (by omega)) rfl ?_
                        refine op_v (v_move rfl) rfl ?_
                        refine ops_nil ?_
                        refine PostJ.view View.nil ?_
                        refine post_again (gs.length - (k + 1)) [(0, .slice ad gs.length c), (21, .slice ad gs.length c), (22, .int .i64 gs.length), (23, .int .i64 (k + 1 : Nat))] (by omega) ⟨k + 1, rfl, hlt, rfl, Imm.leA, rfl, ?_⟩ ⟨rfl, rfl, rfl, rfl, trivial⟩
                        intro i h hi
                        rcases Nat.lt_or_ge i k with hik | hik
                        · exact hp i h hik
                        have hik2 : i = k := by omega
                        subst hik2
                        have h35' : nmEq gs[i].name ⟨#[]⟩ = false := by simpa using h35
                        unfold badS
                        rw [h35', h43']
                        simp
                        omega
        · have hge : k = gs.length := by simp at hc1; omega
          refine code_exit ?_
          refine post_exit_then ?_
          refine post_exit_then ?_
          refine post_exit ?_
          refine post_next ?_
          refine code_seq ?_
          refine code_region ?_
          refine op_v (v_assign rfl) rfl ?_
          refine ops_nil ?_
          refine post_next ?_
          refine code_ret ?_
          refine post_ret (rs := [.tmp 2]) rfl (List.Perm.refl _) (.cons (.tmp rfl) .nil) (List.nil_sublist _) ?_
          exact ⟨by rw [chkG_ok h0 (by omega) h19 (fun i h => hp i h (by omega))]; rfl, rfl⟩
      · refine op_want rfl rfl ?_
        refine op_v (v_eqSy (a := gs[0]'h0) (b := truthS) (z := true) syTy rfl rfl (by simp [cmpG, h19])) rfl ?_
        refine op_v (v_pickf rfl rfl) rfl ?_
        refine ops_nil ?_
        refine post_next ?_
        refine code_cond_t rfl ?_
        refine code_seq ?_
        refine code_region ?_
        refine op_v (v_assign rfl) rfl ?_
        refine ops_nil ?_
        refine post_next ?_
        refine code_ret ?_
        refine post_ret_then ?_
        refine post_ret (rs := [.tmp 2]) rfl (List.Perm.refl _) (.cons (.tmp rfl) .nil) (List.nil_sublist _) ?_
        exact ⟨by rw [chkG_head h0 h19]; rfl, rfl⟩
end Go.Proofs.YtdbadicpbmndbaaGreat
/- How a substitution lies in memory; what stands for a variable. Plain definitions; no condition. -/
set_option linter.unusedVariables false
set_option linter.unusedSimpArgs false
/- short -/
namespace Go.Proofs.YtdbadicpbmndbaaGreat
open Go Lg

theorem FDoes.ofFirst {P : Program} {f : FuncId} {firsts args : List Value} {I : Imm} {δ : List Ent} {R : Value → Imm → List Ent → Prop} (hp : Plainf P f = true) (h : Does P f (firsts ++ args) I δ R) :
    FDoes P (.func (.func f) firsts.toArray #[]) args I δ R := by
  intro w hs
  refine ⟨{ target := .fn (.func f) #[], args := (firsts ++ args).toArray }, by simp [Deferred.ofValue], .inl ⟨f, (firsts ++ args).toArray, ?_, h w hs⟩⟩
  simp only [invoke]
  rw [run_callFunc hp]
  simp

abbrev Bi := Int × T
/-- a substitution that is only read -/
inductive RepB (I : Imm) : Value → List Bi → Prop
  | mk (ad : Option Addr) (c : Nat) (ss : Nat → Option Addr × Nat) (bs : List Bi) (hc : bs.length ≤ c) (hb : bs.length ≤ 4398046511104)
      (hat : ∀ i (h : i < bs.length), At I ad (i * 3) [.int .i64 bs[i].1, .int .i64 bs[i].2.head, .slice (ss i).1 bs[i].2.args.length (ss i).2]) (hr : ∀ i (h : i < bs.length), InR bs[i].1)
      (hsub : ∀ i (h : i < bs.length), RepT I (.agg #[.int .i64 bs[i].2.head, .slice (ss i).1 bs[i].2.args.length (ss i).2]) bs[i].2) : RepB I (.slice ad bs.length c) bs
theorem RepB.mono {I J : Imm} {v : Value} {bs : List Bi} (h : RepB I v bs) (hl : I.le J) : RepB J v bs := by
  obtain ⟨ad, c, ss, bs, hc, hb, hat, hr, hsub⟩ := h
  exact ⟨ad, c, ss, bs, hc, hb, fun i h => (hat i h).mono hl, hr, fun i h => (hsub i h).mono hl⟩
theorem RepB.shape {I : Imm} {v : Value} {bs : List Bi} (h : RepB I v bs) : ∃ ad c, v = .slice ad bs.length c := by
  obtain ⟨ad, c, ss, bs, _, _, _, _, _⟩ := h; exact ⟨ad, c, rfl⟩
theorem RepB.open {I : Imm} {ad : Option Addr} {n c : Nat} {bs : List Bi} (h : RepB I (.slice ad n c) bs) : n = bs.length ∧ bs.length ≤ c ∧ bs.length ≤ 4398046511104 ∧ (∀ i (h : i < bs.length), InR bs[i].1) ∧ ∃ ss : Nat → Option Addr × Nat,
    (∀ i (h : i < bs.length), At I ad (i * 3) [.int .i64 bs[i].1, .int .i64 bs[i].2.head, .slice (ss i).1 bs[i].2.args.length (ss i).2]) ∧
    (∀ i (h : i < bs.length), RepT I (.agg #[.int .i64 bs[i].2.head, .slice (ss i).1 bs[i].2.args.length (ss i).2]) bs[i].2) := by
  generalize e : Value.slice ad n c = v at h
  obtain ⟨ad', c', ss, bs, hc, hb, hat, hr, hsub⟩ := h
  cases e
  exact ⟨rfl, hc, hb, hr, ss, hat, hsub⟩

/-- the first bind of a variable -/
def ofB : List Bi → Int → Option T
  | [], _ => none
  | (v, t) :: r, x => if v = x then some t else ofB r x
/-- a map holds binds -/
def MB (I : Imm) (xs : Mp) (bs : List Bi) : Prop := ∀ v, (ofB bs v = none → mget xs v = none) ∧ ∀ t, ofB bs v = some t → ∃ u, mget xs v = some u ∧ RepT I u t
theorem MB.mono {I J : Imm} {xs : Mp} {bs : List Bi} (h : MB I xs bs) (hl : I.le J) : MB J xs bs :=
  fun v => ⟨(h v).1, fun t ht => let ⟨u, h1, h2⟩ := (h v).2 t ht; ⟨u, h1, h2.mono hl⟩⟩
theorem MB.nil (I : Imm) : MB I [] [] := fun v => ⟨fun _ => rfl, fun t ht => by simp [ofB] at ht⟩
theorem MB.put {I : Imm} {xs : Mp} {bs : List Bi} {v : Int} {t : T} {u : Value} (h : MB I xs bs) (hu : RepT I u t) : MB I (mput xs v u) ((v, t) :: bs) := fun x => by
  rw [mget_mput]
  simp only [ofB]
  by_cases e : v = x
  · rw [if_pos e, if_pos e]
    exact ⟨fun h => (by cases h), fun t' ht => (by cases ht; exact ⟨u, rfl, hu⟩)⟩
  · rw [if_neg e, if_neg e]; exact h x
def ofT (bs : List Bi) (t : T) : T := (ofB bs (-1 - t.head)).getD t

/-! ### a range over binds from behind -/
end Go.Proofs.YtdbadicpbmndbaaGreat
/- Plain facts on parts of terms. No condition. -/
set_option linter.unusedVariables false
set_option linter.unusedSimpArgs false
namespace Go.Proofs.YtdbadicpbmndbaaGreat
open Go Lg

theorem depL_app (a b : List T) : depL (a ++ b) = max (depL a) (depL b) := by
  induction a with
  | nil => simp [depL]
  | cons x r ih => simp only [List.cons_append, depL, ih, Nat.max_assoc]
theorem depL_take (l : List T) (k : Nat) (h : k < l.length) : depL (l.take (k + 1)) = max (depL (l.take k)) (depT l[k]) := by
  rw [List.take_succ_eq_append_getElem h, depL_app]; simp [depL]
theorem depL_mem : ∀ (l : List T) (k : Nat) (h : k < l.length), depT l[k] ≤ depL l
  | t :: r, 0, _ => by simp only [depL, List.getElem_cons_zero]; omega
  | t :: r, k + 1, h => by have := depL_mem r k (by simpa using h); simp [depL]; omega
mutual
theorem any_T : ∀ (d e : Nat) (t : T), (partsT d t).any badN = (partsT e t).any badN
  | d, e, .mk h ts => by
    simp only [partsT, List.any_cons]
    rw [any_L (d + 1) (e + 1) ts]
    rfl
theorem any_L : ∀ (d e : Nat) (ts : List T), (partsL d ts).any badN = (partsL e ts).any badN
  | _, _, [] => rfl
  | d, e, t :: r => by simp only [partsL, List.any_append]; rw [any_T d e t, any_L d e r]
end
theorem any_mem : ∀ (d : Nat) (l : List T) (k : Nat) (h : k < l.length), (partsL d l).any badN = false → (partsT d l[k]).any badN = false
  | d, t :: r, 0, _, h => by simp only [partsL, List.any_append, Bool.or_eq_false_iff] at h; exact h.1
  | d, t :: r, k + 1, hk, h => by
    simp only [partsL, List.any_append, Bool.or_eq_false_iff] at h
    exact any_mem d r k (by simpa using hk) h.2
theorem chk_part {h : Int} {ts : List T} (hc : chkT (.mk h ts) = 0) (k : Nat) (hk : k < ts.length) : chkT ts[k] = 0 := by
  have h1 := sizeL_mem ts k hk
  have h2 := depL_mem ts k hk
  have hsz : (T.mk h ts).size = 1 + sizeL ts := by simp [T.size]
  have hdp : depT (T.mk h ts) = 1 + depL ts := by simp [depT]
  unfold chkT at hc
  rw [hsz, hdp] at hc
  by_cases q1 : 400 < 1 + sizeL ts
  · rw [if_pos q1] at hc; omega
  · rw [if_neg q1] at hc
    by_cases q2 : 40 < 1 + depL ts
    · rw [if_pos q2] at hc; omega
    · rw [if_neg q2] at hc
      by_cases q3 : (partsT 1 (.mk h ts)).any badN = true
      · rw [if_pos q3] at hc; omega
      · have q4 : (partsL 2 ts).any badN = false := by
          simp only [partsT, List.any_cons, Bool.or_eq_true, not_or] at q3
          simpa using q3.2
        have q5 := any_mem 2 ts k hk q4
        rw [any_T 2 1] at q5
        unfold chkT
        rw [if_neg (by omega), if_neg (by omega), q5]
        rfl

end Go.Proofs.YtdbadicpbmndbaaGreat
/- Walks: terms put in place of variables. -/
set_option linter.unusedVariables false
set_option linter.unusedSimpArgs false
/- short -/
namespace Go.Proofs.YtdbadicpbmndbaaGreat
open Go Lg

mutual
/-- a term with something in place of each variable -/
def rbT (f : T → T) : T → T
  | .mk h us => if h < 0 then f (.mk h us) else .mk h (rbL f us)
def rbL (f : T → T) : List T → List T
  | [] => []
  | t :: r => rbT f t :: rbL f r
end
theorem rbL_map (f : T → T) : ∀ us : List T, rbL f us = us.map (rbT f)
  | [] => rfl
  | t :: r => by simp [rbL, rbL_map f r]
theorem rbL_len (f : T → T) (us : List T) : (rbL f us).length = us.length := by rw [rbL_map]; simp
theorem rbL_take (f : T → T) (us : List T) (k : Nat) (h : k < us.length) : rbL f (us.take (k + 1)) = rbL f (us.take k) ++ [rbT f us[k]] := by
  rw [rbL_map, rbL_map, List.take_succ_eq_append_getElem h, List.map_append]; rfl

theorem rebuild_does {fv : Value} {δf : List Ent} {f : T → T} {I0 : Imm} (hf : ∀ J v t, I0.le J → RepT J v t → FDoes Tryz.prog fv [v] J δf (fun v' J' δ' => RepT J' v' (f t) ∧ δ' = δf)) :
    ∀ (n : Nat) (t : T), t.size ≤ n → ∀ (I : Imm) (v : Value), I0.le I → RepT I v t →
    Does Tryz.prog 96 [v, fv] I δf (fun v I' δ' => RepT I' v (rbT f t) ∧ δ' = δf) := by
  intro n
  induction n with
  | zero => intro t ht; have := t.size_pos; omega
  | succ n ih =>
    intro t ht I v hI hv
    obtain ⟨h, ts⟩ := t
    have hv0 := hv
    obtain ⟨ad, c, ss, rfl, hr, hc, hb, hat, hsub⟩ := hv.elim
    have hsz : (T.mk h ts).size = 1 + sizeL ts := by simp [T.size]
    refine Does.intro Tryz.func96 rfl Tryz.ntmps96 rfl fun w0 => ?_
    refine code_seq ?_
    refine code_region ?_
    refine o_box rfl rfl rfl (fun b2 => ?_)
    refine o_alloc z48 rfl rfl (fun b4 => ?_)
    refine ops_nil ?_
    refine post_next ?_
    refine code_seq ?_
    refine code_seq ?_
    refine code_region ?_
    refine op_v (v_fieldB 0 Tryz.underlying48 rfl rfl fz3 rfl) rfl ?_
    refine op_v (v_loadA ty3 rfl rfl) rfl ?_
    by_cases hneg : h < 0
    · refine op_v (v_cmptA rfl rfl rfl) rfl ?_
      refine ops_nil ?_
      refine post_next ?_
      refine code_cond_t rfl ?_
      refine code_seq ?_
      refine code_region ?_
      refine op_v (v_move rfl) rfl ?_
      refine op_v (v_loadA ty48 rfl rfl) rfl ?_
      refine op_fcall rfl rfl rfl ((hf _ _ _ hI hv0)) (List.perm_append_comm (l₁ := [_, _])) ?_
      rintro v13 I13 _ hI13 ⟨hv13, rfl⟩
      obtain ⟨a13, c13, rfl, _⟩ := hv13.shape
      refine OpsJ.view (View.perm (List.perm_append_comm (l₂ := [_, _]))) ?_
      refine o_store ty48 rfl rfl rfl rfl rfl (by repeat (first | exact Swap.here | apply Swap.there)) rfl ?_
      refine ops_nil ?_
      refine post_next ?_
      refine code_ret ?_
      refine post_ret_then ?_
      refine post_ret (rs := [.cell 4 48]) rfl (List.Perm.refl _) (.cons (.cell rfl ty48 (by repeat (first | exact Has.here | apply Has.there)) rfl) .nil) (List.Sublist.cons _ (List.Sublist.cons _ (List.Sublist.refl _))) ?_
      exact ⟨by simp only [rbT]; rw [if_pos hneg]; exact hv13, rfl⟩
    · refine op_v (v_cmpfA rfl rfl rfl) rfl ?_
      refine ops_nil ?_
      refine post_next ?_
      refine code_cond_f rfl ?_
      refine code_skip ?_
      refine post_next ?_
      refine code_seq ?_
      refine code_region ?_
      refine op_v (v_fieldB 0 Tryz.underlying48 rfl rfl fz3 rfl) rfl ?_
      refine op_v (v_loadA ty3 rfl rfl) rfl ?_
      refine op_v (v_build bl48 rfl rfl) rfl ?_
      refine o_alloc z48 rfl rfl (fun b5 => ?_)
      refine o_store ty48 rfl rfl rfl rfl rfl (by repeat (first | exact Swap.here | apply Swap.there)) rfl ?_
      refine ops_nil ?_
      refine post_next ?_
      refine code_seq ?_
      refine code_seq ?_
      refine code_region ?_
      refine op_v (v_fieldB 1 Tryz.underlying48 rfl rfl fz46 rfl) rfl ?_
      refine op_v (v_loadA ty46 rfl rfl) rfl ?_
      refine op_v (v_len Tryz.underlying46 rfl) rfl ?_
      refine op_v (v_move rfl) rfl ?_
      refine ops_nil ?_
      refine post_next ?_
      refine code_block ?_
      refine CodeJ.view (View.nilRow 48 2) ?_
      refine code_loop (fun m σ' I' δ' => ∃ (k : Nat) (ar : Option Addr) (cr : Nat) (xs : List Value), m = ts.length - k ∧ k ≤ ts.length ∧ σ' = [(1, fv), (4, .pointer (some ⟨b4, 0, none⟩)), (5, .pointer (some ⟨b5, 0, none⟩)), (18, .slice ad ts.length c), (19, .int .i64 ts.length), (20, .int .i64 k)] ∧ I.le I' ∧ δ' = .row (.slice ar k cr) 48 2 k xs :: .box b5 48 [.int .i64 h, .slice ar k cr] :: .box b4 48 [.int .i64 0, .slice none 0 0] :: .box b2 48 [.int .i64 h, .slice ad ts.length c] :: δf ∧ RowT I' xs (rbL f (ts.take k))) ts.length [(1, fv), (4, .pointer (some ⟨b4, 0, none⟩)), (5, .pointer (some ⟨b5, 0, none⟩)), (18, .slice ad ts.length c), (19, .int .i64 ts.length), (20, .int .i64 (0 : Nat))] ⟨0, none, 0, [], rfl, Nat.zero_le _, rfl, Imm.le_refl _, rfl, RowT.nil _⟩ ⟨rfl, rfl, rfl, rfl, rfl, rfl, trivial⟩ ?_
      rintro m _ I1 _ ⟨k, ar, cr, xs, rfl, hk, rfl, hI1, rfl, hp⟩
      refine code_seq ?_
      refine code_region ?_
      refine op_v (v_cmp rfl rfl rfl) rfl ?_
      refine ops_nil ?_
      refine post_next ?_
      refine code_seq ?_
      refine code_cond rfl (fun hc1 => ?_) (fun hc1 => ?_)
      · have hlt : k < ts.length := by simpa using hc1
        have hs1 := (hat k hlt).isSome
        have hm := sizeL_mem ts k hlt
        refine code_skip ?_
        refine post_next ?_
        refine code_seq ?_
        refine code_block ?_
        refine code_seq ?_
        refine code_region ?_
        refine op_v (v_indexA Tryz.underlying46 sz48 rfl rfl) rfl ?_
        refine op_v (v_loadI0 ty48 ((hat k hlt).mono hI1) rfl rfl rfl) rfl ?_
        refine o_alloc z48 rfl rfl (fun b7 => ?_)
        refine o_store ty48 rfl rfl rfl rfl rfl (by repeat (first | exact Swap.here | apply Swap.there)) rfl ?_
        refine ops_nil ?_
        refine post_next ?_
        refine code_draw (.fl 0 (.fl 1 (.fl 2 (.fl 3 (.ef 4 (.ef 5 (.ef 6 (.fl 7 (.ef 8 .done))))))))) (fun _ => .box b7 48 [.int .i64 ts[k].head, .slice (ss k).1 ts[k].args.length (ss k).2] :: .box b5 48 [.int .i64 h, .slice ar k cr] :: .box b4 48 [.int .i64 0, .slice none 0 0] :: .box b2 48 [.int .i64 h, .slice ad ts.length c] :: δf) mixed (by kernel_rfl) (by kernel_rfl) (fun _ => (List.Sublist.cons_cons _ (List.Sublist.cons _ (List.Sublist.refl _)))) ?_
        refine e_float rfl rfl (fun hs_ => PF.mk rfl (v_fieldB 1 Tryz.underlying48 rfl rfl fz46 rfl) hs_) Imm.leA (by intro x hx; simp only [List.mem_cons] at hx ⊢; rcases hx with h | h | h | h | h <;> simp [h, cellsL]) ?_
        refine e_float rfl rfl (fun hs_ => PF.mk rfl (v_loadA ty46 rfl rfl) hs_) Imm.leA (by intro x hx; simp only [List.mem_cons] at hx ⊢; rcases hx with h | h | h | h | h <;> simp [h, cellsL]) ?_
        refine e_float rfl rfl (fun hs_ => PF.mk rfl (v_loadA ty48 rfl rfl) hs_) Imm.leA (by intro x hx; simp only [List.mem_cons] at hx ⊢; rcases hx with h | h | h | h | h <;> simp [h, cellsL]) ?_
        refine e_float rfl rfl (fun hs_ => PF.mk rfl (v_move rfl) hs_) Imm.leA (by intro x hx; simp only [List.mem_cons] at hx ⊢; rcases hx with h | h | h | h | h <;> simp [h, cellsL]) ?_
        refine e_eff rfl (by intro cs b hc; cases hc) (by intro c hc; cases hc) ?_
        refine op_call pl96 rfl rfl ((ih ts[k] (by omega) _ _ (Imm.le_trans hI hI1) ((hsub k hlt).mono hI1))) (List.perm_append_comm (l₁ := [_, _, _, _, _])) ?_
        rintro v28 I28 _ hI28 ⟨hv28, rfl⟩
        obtain ⟨p28, q28, rfl, _⟩ := hv28.shape
        refine OpsJ.view (View.perm (List.perm_append_comm (l₂ := [_, _, _, _, _]))) ?_
        refine ops_nil ?_
        refine e_next rfl (side_all Imm.leA (fun _ => (by intro x hx; simp only [List.mem_cons] at hx ⊢; rcases hx with h | h | h | h | h <;> simp [h, cellsL]))) ?_
        refine e_eff rfl (by intro cs b hc; cases hc) (by intro c hc; cases hc) ?_
        refine o_buildSlice (xs := [(Go.Operand.tmp 28)]) Tryz.underlying46 bs48 rfl rfl rfl rfl rfl (fun b29 => ?_)
        refine ops_nil ?_
        refine e_next rfl (side_all Imm.leA (fun _ => (by intro x hx; simp only [List.mem_cons] at hx ⊢; rcases hx with h | h | h | h | h <;> simp [h, cellsL]))) ?_
        refine e_eff rfl (by intro cs b hc; cases hc) (by intro c hc; cases hc) ?_
        refine o_append Tryz.underlying46 bs48 rfl rfl rfl (fun v' => by repeat (first | exact Swap.here | apply Swap.there)) (Src.ofRow (by repeat (first | exact Has.here | apply Has.there)) rfl) (by first | rfl | omega | simp) (by simp [cat, cellsL, Value.oneCell']) (by omega) (by omega) (fun a30 c30 => ?_)
        refine ops_nil ?_
        refine e_next rfl (side_all Imm.leA (fun _ => (by intro x hx; simp only [List.mem_cons] at hx ⊢; rcases hx with h | h | h | h | h <;> simp [h, cellsL]))) ?_
        refine e_float rfl rfl (fun hs_ => PF.mk rfl (v_fieldB 1 Tryz.underlying48 rfl rfl fz46 rfl) hs_) Imm.leA (by intro x hx; simp only [List.mem_cons] at hx ⊢; rcases hx with h | h | h | h | h <;> simp [h, cellsL]) ?_
        refine e_eff rfl (by intro cs b hc; cases hc) (by intro c hc; cases hc) ?_
        refine o_store ty46 rfl rfl rfl rfl rfl (by repeat (first | exact Swap.here | apply Swap.there)) rfl ?_
        refine ops_nil ?_
        refine e_next_ (side_nil (by kernel_rfl)) ?_
        refine e_done ?_
        refine post_out ?_
        refine post_next ?_
        refine code_region ?_
        refine op_v (v_addb rfl rfl rfl (by omega)) rfl ?_
        refine op_v (v_move rfl) rfl ?_
        refine ops_nil ?_
        refine PostJ.view ((View.drop Del.here).trans (View.drop Del.here)) ?_
        refine post_again (ts.length - (k + 1)) [(1, fv), (4, .pointer (some ⟨b4, 0, none⟩)), (5, .pointer (some ⟨b5, 0, none⟩)), (18, .slice ad ts.length c), (19, .int .i64 ts.length), (20, .int .i64 ((k + 1 : Nat) : Int))] (by omega) ⟨k + 1, a30, c30, xs ++ [.int .i64 (rbT f ts[k]).head, .slice p28 (rbT f ts[k]).args.length q28], rfl, hlt, rfl, Imm.le_trans hI1 hI28, rfl, ?_⟩ ⟨rfl, rfl, rfl, rfl, rfl, rfl, trivial⟩
        rw [rbL_take f ts k hlt]
        exact (hp.mono hI28).app (RowT.one hv28)
      · have hge : k = ts.length := by simp at hc1; omega
        subst hge
        rw [List.take_length] at hp
        refine code_exit ?_
        refine post_exit_then ?_
        refine post_exit_then ?_
        refine post_exit ?_
        refine post_next ?_
        refine code_seq ?_
        refine code_region ?_
        refine OpsJ.freezeRow Del.here ?_
        rintro I33 ar2 cr2 hI33 hvr hcr hlr hcells
        cases hvr
        refine op_v (v_loadA ty48 rfl rfl) rfl ?_
        refine o_store ty48 rfl rfl rfl rfl rfl (by repeat (first | exact Swap.here | apply Swap.there)) rfl ?_
        refine ops_nil ?_
        refine post_next ?_
        refine code_ret ?_
        refine post_ret (rs := [.cell 4 48]) rfl (List.Perm.refl _) (.cons (.cell rfl ty48 (by repeat (first | exact Has.here | apply Has.there)) rfl) .nil) (List.Sublist.cons _ (List.Sublist.cons _ (List.Sublist.cons _ (List.Sublist.refl _)))) ?_
        exact ⟨by simp only [rbT]; rw [if_neg hneg]; have hl := rbL_len f ts; have := RowT.rep (h := h) hcells (hp.mono hI33) hr (by rw [hl]; exact hcr) (by rw [hl]; exact hb); rw [hl] at this; exact this, rfl⟩

/-! ### sizes -/
mutual
theorem rb_sizeT (f : T → T) (m : Nat) (hm : 1 ≤ m) (hf : ∀ t, t.head < 0 → (f t).size ≤ m * t.size) : ∀ t : T, (rbT f t).size ≤ m * t.size
  | .mk h us => by
    simp only [rbT]
    split
    · exact hf _ (by assumption)
    · have := rb_sizeL f m hm hf us
      simp only [T.size, Nat.mul_add]; omega
theorem rb_sizeL (f : T → T) (m : Nat) (hm : 1 ≤ m) (hf : ∀ t, t.head < 0 → (f t).size ≤ m * t.size) : ∀ us : List T, sizeL (rbL f us) ≤ m * sizeL us
  | [] => by simp [rbL, sizeL]
  | t :: r => by
    have h1 := rb_sizeT f m hm hf t
    have h2 := rb_sizeL f m hm hf r
    simp only [rbL, sizeL, Nat.mul_add]; omega
end
def sbT (bs : List Bi) (t : T) : T := rbT (ofT bs) t
/-! ### rightness -/
def badBi (last : Int) (b : Bi) : Bool := decide (b.1 ≤ last) || (decide (255 < b.1) || (decide (chkT b.2 ≠ 0) || decide (b.2.head = -1 - b.1)))
def chkB (bs : List Bi) : Prop := ∀ i (h : i < bs.length), badBi (if i = 0 then -1 else (bs.getD (i - 1) (0, zeroT)).1) bs[i] = false
theorem end_does {I : Imm} {v : Value} {t : T} (hv : RepT I v t) (hbig : t.size ≤ 1000000000) :
    Does Tryz.prog 95 [v] I [] (fun v I' δ' => (∃ u, v = .tuple #[u, .int .i64 (chkT t)] ∧ RepT I' u (if chkT t = 0 then t else zeroT)) ∧ δ' = []) := by
  obtain ⟨a0, c0, rfl, hr0⟩ := hv.shape
  refine Does.intro Tryz.func95 rfl Tryz.ntmps95 rfl fun w0 => ?_
  refine code_seq ?_
  refine code_region ?_
  refine o_box rfl rfl rfl (fun b1 => ?_)
  refine o_alloc z48 rfl rfl (fun b2 => ?_)
  refine op_v (v_assign rfl) rfl ?_
  refine ops_nil ?_
  refine post_next ?_
  refine code_seq ?_
  refine code_seq ?_
  refine code_region ?_
  refine op_v (v_loadA ty48 rfl rfl) rfl ?_
  refine op_call pl49 rfl rfl ((TCheck_does hv hbig)) Parts.none ?_
  rintro v6 I6 _ hI6 ⟨rfl, rfl⟩
  refine op_v (v_assign rfl) rfl ?_
  refine ops_nil ?_
  refine post_next ?_
  refine code_seq ?_
  refine code_region ?_
  refine op_v (v_move rfl) rfl ?_
  by_cases h8 : chkT t ≠ 0
  · refine op_v (v_cmptA rfl rfl rfl) rfl ?_
    refine ops_nil ?_
    refine post_next ?_
    refine code_cond_t rfl ?_
    refine code_seq ?_
    refine code_region ?_
    refine op_v (v_build bl48 rfl rfl) rfl ?_
    refine op_v (v_move rfl) rfl ?_
    refine o_store ty48 rfl rfl rfl rfl rfl (by repeat (first | exact Swap.here | apply Swap.there)) rfl ?_
    refine op_v (v_assign rfl) rfl ?_
    refine ops_nil ?_
    refine post_next ?_
    refine code_ret ?_
    refine post_ret_then ?_
    refine post_ret (rs := [.cell 2 48, .tmp 3]) rfl (List.Perm.refl _) (.cons (.cell rfl ty48 (by repeat (first | exact Has.here | apply Has.there)) rfl) (.cons (.tmp rfl) .nil)) (List.nil_sublist _) ?_
    exact ⟨⟨_, rfl, by rw [if_neg h8]; exact zeroT_rep _⟩, rfl⟩
  · refine op_v (v_cmpfA rfl rfl rfl) rfl ?_
    refine ops_nil ?_
    refine post_next ?_
    refine code_cond_f rfl ?_
    refine code_skip ?_
    refine post_next ?_
    refine code_seq ?_
    refine code_region ?_
    refine op_v (v_loadA ty48 rfl rfl) rfl ?_
    refine o_store ty48 rfl rfl rfl rfl rfl (by repeat (first | exact Swap.here | apply Swap.there)) rfl ?_
    refine op_v (v_assign rfl) rfl ?_
    refine ops_nil ?_
    refine post_next ?_
    refine code_ret ?_
    refine post_ret (rs := [.cell 2 48, .tmp 3]) rfl (List.Perm.refl _) (.cons (.cell rfl ty48 (by repeat (first | exact Has.here | apply Has.there)) rfl) (.cons (.tmp rfl) .nil)) (List.nil_sublist _) ?_
    have h8' : chkT t = 0 := by simpa using h8
    exact ⟨⟨_, by rw [h8']; rfl, by rw [if_pos h8']; exact hv.mono hI6⟩, rfl⟩
end Go.Proofs.YtdbadicpbmndbaaGreat
/- Walks: a term's parts, how often heads stand in it. -/
set_option linter.unusedVariables false
set_option linter.unusedSimpArgs false
/- short -/
namespace Go.Proofs.YtdbadicpbmndbaaGreat
open Go Lg

mutual
def visT : Bool → T → List (Bool × T)
  | b, .mk h us => (b, .mk h us) :: visL us
def visL : List T → List (Bool × T)
  | [] => []
  | t :: r => visT false t ++ visL r
end
mutual
theorem visT_length : ∀ (b : Bool) (t : T), (visT b t).length = t.size
  | b, .mk h us => by simp [visT, T.size, visL_length us]; omega
theorem visL_length : ∀ ts : List T, (visL ts).length = sizeL ts
  | [] => rfl
  | t :: r => by simp [visL, sizeL, visT_length false t, visL_length r]
end
theorem visT_eq (b : Bool) (t : T) : visT b t = (b, t) :: visL t.args := by cases t; rfl
theorem visL_app : ∀ a b : List T, visL (a ++ b) = visL a ++ visL b
  | [], b => rfl
  | t :: r, b => by simp [visL, visL_app r b]
theorem visL_take (l : List T) (k : Nat) (h : k < l.length) : visL (l.take (k + 1)) = visL (l.take k) ++ visT false l[k] := by
  rw [List.take_succ_eq_append_getElem h, visL_app]; simp [visL]

theorem gwalk_does {see : Value} (J : List (Bool × T) → Imm → List Ent → Prop) (hm : ∀ l I1 I2 δ, I1.le I2 → J l I1 δ → J l I2 δ)
    (hsee : ∀ pre x I v δ, pre.length ≤ 1000000000 → RepT I v x.2 → J pre I δ → FDoes Tryz.prog see [v, .bool x.1] I δ (fun _ I' δ' => J (pre ++ [x]) I' δ')) :
    ∀ (n : Nat) (t : T), t.size ≤ n → ∀ (top : Bool) (pre : List (Bool × T)) (I : Imm) (v : Value) (δ : List Ent), pre.length + t.size ≤ 1000000000 → RepT I v t → J pre I δ →
      Does Tryz.prog 164 [v, .bool top, see] I δ (fun _ I' δ' => J (pre ++ visT top t) I' δ') := by
  intro n
  induction n with
  | zero => intro t h; have := t.size_pos; omega
  | succ n ih =>
    intro t hn top pre I v δ hbig hv hJ
    obtain ⟨a0, c0, rfl, hr0⟩ := hv.shape
    obtain ⟨_, _, _, hc, hb, ss, hat, hsub⟩ := hv.open
    have hsz := size_eqT t
    have hb0 : J (pre ++ visT top t) I δ → True := fun _ => trivial
    refine Does.intro Tryz.func164 rfl Tryz.ntmps164 rfl fun w0 => ?_
    refine code_seq ?_
    refine code_region ?_
    refine o_box rfl rfl rfl (fun b3 => ?_)
    refine ops_nil ?_
    refine post_next ?_
    refine code_seq ?_
    refine code_region ?_
    refine op_v (v_move rfl) rfl ?_
    refine op_v (v_loadA ty48 rfl rfl) rfl ?_
    refine op_v (v_move rfl) rfl ?_
    refine op_fcall rfl rfl rfl ((hsee pre (top, t) _ _ _ (by omega) hv hJ)) (List.perm_append_comm (l₁ := [_])) ?_
    rintro v11 I11 δ11 hI11 hJ11
    refine OpsJ.view (View.perm (List.perm_append_comm (l₂ := [_]))) ?_
    refine ops_nil ?_
    refine post_next ?_
    refine code_seq ?_
    refine code_region ?_
    refine op_v (v_fieldB 1 Tryz.underlying48 rfl rfl fz46 rfl) rfl ?_
    refine op_v (v_loadA ty46 rfl rfl) rfl ?_
    refine op_v (v_len Tryz.underlying46 rfl) rfl ?_
    refine op_v (v_move rfl) rfl ?_
    refine ops_nil ?_
    refine post_next ?_
    refine code_block ?_
    refine code_loop (fun m σ' I' δ' => ∃ (k : Nat) (δJ : List Ent), m = t.args.length - k ∧ k ≤ t.args.length ∧ σ' = [(2, see), (13, .slice a0 t.args.length c0), (14, .int .i64 t.args.length), (15, .int .i64 k)] ∧ I.le I' ∧ δ' = .box b3 48 [.int .i64 t.head, .slice a0 t.args.length c0] :: δJ ∧ J (pre ++ (top, t) :: visL (t.args.take k)) I' δJ) t.args.length [(2, see), (13, .slice a0 t.args.length c0), (14, .int .i64 t.args.length), (15, .int .i64 (0 : Nat))] ⟨0, δ11, rfl, Nat.zero_le _, rfl, hI11, rfl, hJ11⟩ ⟨rfl, rfl, rfl, rfl, trivial⟩ ?_
    rintro m _ I0 _ ⟨k, δJ, rfl, hk, rfl, hI0, rfl, hJ0⟩
    refine code_seq ?_
    refine code_region ?_
    refine op_v (v_cmp rfl rfl rfl) rfl ?_
    refine ops_nil ?_
    refine post_next ?_
    refine code_seq ?_
    refine code_cond rfl (fun hc0 => ?_) (fun hc0 => ?_)
    · have hlt : k < t.args.length := by simpa using hc0
      have hs1 := (hat k hlt).isSome
      have hks := sizeL_mem t.args k hlt
      have hlen : (pre ++ (top, t) :: visL (t.args.take k)).length + t.args[k].size ≤ 1000000000 := by
        have h1 := congrArg List.length (visL_take t.args k hlt)
        have h2 : sizeL (t.args.take (k + 1)) ≤ sizeL t.args := by
          have h3 := congrArg List.length (visL_app (t.args.take (k + 1)) (t.args.drop (k + 1)))
          rw [List.take_append_drop, List.length_append, visL_length, visL_length, visL_length] at h3
          omega
        rw [List.length_append, visL_length, visL_length, visT_length] at h1
        rw [List.length_append, List.length_cons, visL_length]
        omega
      refine code_skip ?_
      refine post_next ?_
      refine code_seq ?_
      refine code_block ?_
      refine code_seq ?_
      refine code_region ?_
      refine op_v (v_indexA Tryz.underlying46 sz48 rfl rfl) rfl ?_
      refine op_v (v_loadI0 ty48 ((hat k hlt).mono hI0) rfl rfl rfl) rfl ?_
      refine o_alloc z48 rfl rfl (fun b7 => ?_)
      refine o_store ty48 rfl rfl rfl rfl rfl (by repeat (first | exact Swap.here | apply Swap.there)) rfl ?_
      refine ops_nil ?_
      refine post_next ?_
      refine code_region ?_
      refine op_v (v_loadA ty48 rfl rfl) rfl ?_
      refine op_v (v_move rfl) rfl ?_
      refine op_call pl164 rfl rfl ((ih t.args[k] (by omega) false _ _ _ _ hlen ((hsub k hlt).mono hI0) hJ0)) (List.perm_append_comm (l₁ := [_, _])) ?_
      rintro v21 I21 δ21 hI21 hJ21
      refine OpsJ.view (View.perm (List.perm_append_comm (l₂ := [_, _]))) ?_
      rw [List.append_assoc, List.cons_append, ← visL_take t.args k hlt] at hJ21
      refine ops_nil ?_
      refine post_out ?_
      refine post_next ?_
      refine code_region ?_
      refine op_v (v_addb rfl rfl rfl (by omega)) rfl ?_
      refine op_v (v_move rfl) rfl ?_
      refine ops_nil ?_
      refine PostJ.view (View.drop Del.here) ?_
      refine post_again (t.args.length - (k + 1)) [(2, see), (13, .slice a0 t.args.length c0), (14, .int .i64 t.args.length), (15, .int .i64 (k + 1 : Nat))] (by omega) ⟨k + 1, δ21, rfl, hlt, rfl, Imm.le_trans hI0 hI21, rfl, hJ21⟩ ⟨rfl, rfl, rfl, rfl, trivial⟩
    · have hge : k = t.args.length := by simp at hc0; omega
      refine code_exit ?_
      refine post_exit_then ?_
      refine post_exit_then ?_
      refine post_exit ?_
      rw [hge, List.take_length, ← visT_eq] at hJ0
      exact post_end (rs := []) rfl (List.Perm.refl _) .nil (List.sublist_cons_self _ _) hJ0

/-! ### heads -/
theorem snoc_ind {α : Type} {P : List α → Prop} (h0 : P []) (h1 : ∀ l x, P l → P (l ++ [x])) (l : List α) : P l := by
  have : ∀ m : List α, P m.reverse := fun m => by
    induction m with
    | nil => exact h0
    | cons x m ih => rw [List.reverse_cons]; exact h1 _ _ ih
  simpa using this l.reverse
def hds (t : T) : List Int := (visT true t).map (·.2.head)
theorem hds_length (t : T) : (hds t).length = t.size := by simp [hds, visT_length]
end Go.Proofs.YtdbadicpbmndbaaGreat
