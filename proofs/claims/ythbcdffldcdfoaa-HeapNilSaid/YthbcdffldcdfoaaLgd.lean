/- Regions that draw their order: one walk serves every order. No condition. -/
import Derived.Test.YthbcdffldcdfoaaLgc
set_option linter.unusedVariables false
namespace Go.Proofs.Ythbcdffldcdfoaa.Lg
open Go Go.RowKit

variable {C : Ctx} {Q : Exit → Act → World → Prop} {σ : Env} {ds : List Nat} {I : Imm} {δ : List Ent} {ops : Array Oper}

def Looks (ops : Array Oper) (i : Nat) : List Tmp := match ops[i]? with | some o => o.looksAt ops | none => []
def edge (ops : Array Oper) (i j : Nat) : Bool := match ops[j]? with | some o => o.after.any (fun e => Region.binds .any e && e.on == i) | none => false
def cleanFor (ops : Array Oper) (pend : List (Nat × Nat)) (j : Nat) : Bool :=
  pend.all fun p => edge ops p.1 j || !(Looks ops j).contains p.2
def keepsPend (ops : Array Oper) (pend : List (Nat × Nat)) (d : Nat) : Bool :=
  pend.all fun p => !(Looks ops p.1).contains d && p.2 != d
def backs (ops : Array Oper) : Bool :=
  (List.range ops.size).all fun j => match ops[j]? with | some o => o.after.all (fun e => !Region.binds .any e || Nat.blt e.on j) | none => true

/-- An order of a walk: one that only yields a value; one that acts; two that act, in either order. -/
inductive Plan where
  | done
  | fl (i : Nat) (r : Plan)
  | ef (j : Nat) (r : Plan)
  | two (j k : Nat) (r s : Plan)
def effOK (ops : Array Oper) (pend : List (Nat × Nat)) (j : Nat) : Bool :=
  cleanFor ops pend j && (match (ops[j]?).bind (·.dst) with | some d => keepsPend ops (pend.filter fun p => !edge ops p.1 j) d | none => true)
/-- The order of the walk is one that serves. -/
def chk (ops : Array Oper) : Array Bool → List (Nat × Nat) → Plan → Bool
  | listed, _, .done => (List.range ops.size).all (listed.getD · false)
  | listed, pend, .fl i r =>
    match (ops[i]?).bind (·.dst) with
    | some d => !listed.getD i false && cleanFor ops pend i && keepsPend ops pend d && !(Looks ops i).contains d && chk ops (listed.setIfInBounds i true) ((i, d) :: pend) r
    | none => false
  | listed, pend, .ef j r => (Region.ready .any ops listed == [j]) && (effOK ops pend j && chk ops (listed.setIfInBounds j true) (pend.filter fun p => !edge ops p.1 j) r)
  | listed, pend, .two j k r s => (Region.ready .any ops listed == [j, k]) && ((effOK ops pend j && chk ops (listed.setIfInBounds j true) (pend.filter fun p => !edge ops p.1 j) r) &&
      (effOK ops pend k && chk ops (listed.setIfInBounds k true) (pend.filter fun p => !edge ops p.1 k) s))

/-- Some slots are not there yet. -/
structure Part (n : Nat) (σ : Env) (ds : List Nat) (D : List Nat) (a : Act) : Prop where
  size : a.tmps.size = n
  defers : a.defers = marksOf ds
  val : ∀ d v, look d σ = some v → d ∉ D → a.tmps[d]? = some v
  lt : ∀ d ∈ D, d < n

structure Compl (D : List Nat) (a b : Act) : Prop where
  size : b.tmps.size = a.tmps.size
  defers : b.defers = a.defers
  same : ∀ t, t ∉ D → b.tmps[t]? = a.tmps[t]?

theorem Part.complete {n : Nat} {D : List Nat} {a : Act} (h : Part n σ ds D a) : ∃ b, EnvOK n σ ds b ∧ Compl D a b := by
  refine ⟨{ tmps := a.tmps.mapIdx fun i x => if i ∈ D then (look i σ).getD x else x, defers := a.defers }, ⟨by simp [h.size], fun d v hd => ?_, h.defers⟩, ⟨by simp, rfl, fun t ht => by simp [Array.getElem?_mapIdx, ht]⟩⟩
  by_cases hD : d ∈ D
  · have hlt : d < a.tmps.size := by rw [h.size]; exact h.lt d hD
    simp [hD, hd, hlt]
  · simp [Array.getElem?_mapIdx, hD, h.val d v hd hD]

theorem Compl.back {n : Nat} {D : List Nat} {a b : Act} (h : EnvOK n σ ds b) (hc : Compl D a b) (hD : ∀ d ∈ D, d < n) : Part n σ ds D a :=
  ⟨hc.size.symm.trans h.size, hc.defers.symm.trans h.defers, fun d v hd hn => (hc.same d hn).symm.trans (h.val d v hd), hD⟩

theorem Compl.put {D : List Nat} {a b : Act} (h : Compl D a b) {d : Option Nat} (v : Value) : Compl D (a.put d v) (b.put d v) := by
  cases d with
  | none => exact h
  | some d =>
    refine ⟨by simp [Act.put, h.size], h.defers, fun t ht => ?_⟩
    by_cases e : d = t
    · subst e
      simp only [Act.put, Array.getElem?_setIfInBounds]
      simp [h.size]
    · simp [Act.put, Array.getElem?_setIfInBounds_ne e, h.same t ht]

theorem Compl.eval {D : List Nat} {a b : Act} (h : Compl D a b) {x : Operand} (hx : ∀ t, x = .tmp t → t ∉ D) : b.eval x = a.eval x := by
  cases x with
  | tmp t => simp [Act.eval, h.same t (hx t rfl)]
  | _ => rfl

theorem Compl.exec {D : List Nat} {a b : Act} (h : Compl D a b) {o : Oper} (hs : ∀ cs b, o.op ≠ .select cs b) (hx : ∀ t ∈ o.looksAt ops, t ∉ D) : execOp b.eval o = execOp a.eval o :=
  execOp_congr o hs fun x hxm => h.eval fun t e => hx t (by
    subst e
    exact List.mem_append_left _ (List.mem_filterMap.2 ⟨.tmp t, by simpa using hxm, rfl⟩))

theorem Compl.wanted {D : List Nat} {a b : Act} (h : Compl D a b) {o : Oper} (hx : ∀ t ∈ o.looksAt ops, t ∉ D) : Region.wanted o (yielded ops b.tmps) = Region.wanted o (yielded ops a.tmps) := by
  unfold Region.wanted
  cases hg : o.guard with
  | none => rfl
  | some gw =>
    obtain ⟨g, want⟩ := gw
    have hy : yielded ops b.tmps g = yielded ops a.tmps g := by
      unfold yielded
      cases ht : (ops[g]?).bind (·.dst) with
      | none => rfl
      | some t =>
        have : t ∉ D := hx t (by simp [Oper.looksAt, hg, ht])
        simp [h.same t this]
    simp only [hy]

/-- nowhere but at the end -/
def NoQ : Exit → Act → World → Prop := fun _ _ _ => False

/-- What the operation does is the same if slots that it does not look at are filled. -/
theorem wpOp_compl {D : List Nat} {a b : Act} {w : World} {K : Act → World → Prop} {o : Oper} {j : Nat} (ho : ops[j]? = some o) (h : Compl D a b) (hs : ∀ cs b, o.op ≠ .select cs b) (hd : ∀ c, o.op ≠ .defer c)
    (hx : ∀ t ∈ o.looksAt ops, t ∉ D) (hw : wpListIn C.F 0 C.P ops (Exit.then K NoQ) [o] b w) : wpOpIn C.F 0 C.P ops Q j (fun a' w' => ∃ b', Compl D a' b' ∧ K b' w') a w := by
  simp only [wpListIn] at hw
  unfold wpOpIn
  simp only [ho]
  rw [h.wanted hx] at hw
  split
  · rename_i hwt
    rw [if_pos hwt] at hw
    unfold Oper.wpIn at *
    refine ⟨fun _ _ => trivial, ?_⟩
    have hw2 := hw.2
    rw [semAt_eq _ _ _ hd] at hw2 ⊢
    rw [h.exec hs hx] at hw2
    have lets : LetsOut (Exit.then K NoQ) → LetsOut Q := fun ⟨_, _, h⟩ => h.elim
    generalize (execOp a.eval o).run C.P w = r at *
    cases r with
    | ok n w' =>
      cases n <;> simp only [Oper.uponIn] at hw2 ⊢
      case value v => exact ⟨_, h.put v, hw2⟩
      case skip => exact ⟨_, h.put _, hw2⟩
      case defer d => exact ⟨_, (show Compl D { a with defers := d :: a.defers } { b with defers := d :: b.defers } from ⟨h.size, by simp [h.defers], h.same⟩).put _, hw2⟩
      case enter f args =>
        refine ⟨hw2.1, hw2.2.mono fun e w'' he => ?_⟩
        cases e with
        | returned v => exact ⟨_, h.put v, he⟩
        | panicked c => exact he.elim
        | outgrown => exact lets he
      case row row args => exact ⟨hw2.1, hw2.2.mono fun v w'' he => ⟨_, h.put v, he⟩⟩
      case round l f tmps ars body =>
        refine ⟨hw2.1, hw2.2.mono fun e w'' he => ?_⟩
        cases e with
        | returned v => exact ⟨_, h.put v, he⟩
        | panicked c => exact he.elim
        | outgrown => exact lets he
    | halt x w' =>
      cases x <;> simp only [Oper.uponIn] at hw2 ⊢
      case panic v => exact hw2.elim
  · rename_i hwt
    rw [if_neg hwt] at hw
    exact ⟨fun _ _ => trivial, _, h.put _, hw.2⟩

/-- A value that may be taken at any time in the region: what it looks at is there, the heap's part is kept. -/
def PF (C : Ctx) (ops : Array Oper) (Ib : Imm) (keep : List Ent) (σ : Env) (ds : List Nat) (i d : Nat) (v : Value) : Prop :=
  ∃ o, ops[i]? = some o ∧ o.dst = some d ∧ look d σ = some v ∧ d ∉ o.looksAt ops ∧ ∀ D a w, Part C.n σ ds D a → (∀ t ∈ o.looksAt ops, t ∉ D) → Sat w Ib keep →
    (∀ c, o.op ≠ .defer c) ∧ ((Region.wanted o (yielded ops a.tmps) = true ∧ (execOp a.eval o).run C.P w = .ok (.value v) w) ∨ (Region.wanted o (yielded ops a.tmps) = false ∧ v = undef))

theorem ValJ.noselect {op : Op} {v : Value} (h : ValJ C σ ds I δ op v) {a : Act} {w : World} (he : EnvOK C.n σ ds a) (hs : Sat w I δ) : ∀ cs b, op ≠ .select cs b := by
  intro cs b hc
  subst hc
  have := h none 0 "" #[] none a w he hs
  simp only [execOp, Sem.run_bind] at this
  generalize (Array.mapM _ cs : Sem _).run C.P w = r at this
  cases r <;> simp at this

/-- one more slot -/
theorem Part.less {n d : Nat} {u : Value} {D : List Nat} {a : Act} (h : Part n ((d, u) :: σ) ds D a) (hd : d < n) : Part n σ ds (d :: D) a :=
  ⟨h.size, h.defers, fun t v ht hn => h.val t v (by
    rw [look_cons, if_neg (fun e => hn (by simp [e]))]; exact ht) (fun hm => hn (List.mem_cons_of_mem _ hm)), fun t ht => by
    rcases List.mem_cons.1 ht with rfl | ht
    · exact hd
    · exact h.lt t ht⟩

theorem Part.ltOf {n d : Nat} {u : Value} {D : List Nat} {a : Act} (h : Part n ((d, u) :: σ) ds D a) : d < n := by
  by_cases hm : d ∈ D
  · exact h.lt d hm
  · have := h.val d u (by simp [look_cons]) hm
    rw [← h.size]
    exact (Array.getElem?_eq_some_iff.1 this).1

theorem PF.ext {Ib : Imm} {keep : List Ent} {i d d' : Nat} {v u : Value} (h : PF C ops Ib keep σ ds i d v) (hd : d' ∉ Looks ops i) (hne : d ≠ d') : PF C ops Ib keep ((d', u) :: σ) ds i d v := by
  obtain ⟨o, h1, h2, h3, h4, h5⟩ := h
  have hL : Looks ops i = o.looksAt ops := by simp [Looks, h1]
  refine ⟨o, h1, h2, by rw [look_cons, if_neg (fun e => hne e.symm)]; exact h3, h4, fun D a w hp hx hs => ?_⟩
  exact h5 (d' :: D) a w (hp.less hp.ltOf) (fun t ht hm => by
    rcases List.mem_cons.1 hm with rfl | hm
    · exact hd (hL ▸ ht)
    · exact hx t ht hm) hs

theorem PF.mk {Ib : Imm} {keep : List Ent} {i d : Nat} {v : Value} {op : Op} {ty : TypeId} {pos : String} {after : Array Edge} (ho : ops[i]? = some { dst := some d, op := op, type := ty, pos := pos, after := after, guard := none })
    (h : ValJ C σ ds Ib keep op v) (hd : d ∉ Looks ops i) : PF C ops Ib keep ((d, v) :: σ) ds i d v := by
  have hL : Looks ops i = Oper.looksAt ops { dst := some d, op := op, type := ty, pos := pos, after := after, guard := none } := by simp [Looks, ho]
  refine ⟨_, ho, rfl, by simp [look_cons], hL ▸ hd, fun D a w hp hx hs => ?_⟩
  have hp' := hp.less hp.ltOf
  obtain ⟨b, hb, hc⟩ := hp'.complete
  have hx' : ∀ t ∈ Oper.looksAt ops { dst := some d, op := op, type := ty, pos := pos, after := after, guard := none }, t ∉ d :: D := fun t ht hm => by
    rcases List.mem_cons.1 hm with rfl | hm
    · exact hd (hL ▸ ht)
    · exact hx t ht hm
  refine ⟨h.nodefer hb hs, .inl ⟨by simp [Region.wanted], ?_⟩⟩
  rw [← hc.exec (h.noselect hb hs) hx']
  exact h _ _ _ _ _ b w hb hs

theorem PF.mkg {Ib : Imm} {keep : List Ent} {i d j t : Nat} {b : Bool} {v : Value} {op : Op} {ty : TypeId} {pos : String} {after : Array Edge} (ho : ops[i]? = some { dst := some d, op := op, type := ty, pos := pos, after := after, guard := some (j, b) })
    (hj : (ops[j]?).bind (·.dst) = some t) (hv : look t σ = some (.bool b)) (h : ValJ C σ ds Ib keep op v) (hd : d ∉ Looks ops i) : PF C ops Ib keep ((d, v) :: σ) ds i d v := by
  have hL : Looks ops i = Oper.looksAt ops { dst := some d, op := op, type := ty, pos := pos, after := after, guard := some (j, b) } := by simp [Looks, ho]
  refine ⟨_, ho, rfl, by simp [look_cons], hL ▸ hd, fun D a w hp hx hs => ?_⟩
  have hp' := hp.less hp.ltOf
  obtain ⟨b', hb, hc⟩ := hp'.complete
  have hx' : ∀ t ∈ Oper.looksAt ops { dst := some d, op := op, type := ty, pos := pos, after := after, guard := some (j, b) }, t ∉ d :: D := fun t ht hm => by
    rcases List.mem_cons.1 hm with rfl | hm
    · exact hd (hL ▸ ht)
    · exact hx t ht hm
  refine ⟨h.nodefer hb hs, .inl ⟨?_, ?_⟩⟩
  · rw [← hc.wanted hx']
    simp [Region.wanted, yielded, hj, hb.val t _ hv]
  · rw [← hc.exec (h.noselect hb hs) hx']
    exact h _ _ _ _ _ b' w hb hs

theorem PF.mks {Ib : Imm} {keep : List Ent} {i d j t : Nat} {b : Bool} {u : Value} {op : Op} {ty : TypeId} {pos : String} {after : Array Edge} (ho : ops[i]? = some { dst := some d, op := op, type := ty, pos := pos, after := after, guard := some (j, b) })
    (hop : ∀ c, op ≠ .defer c) (hj : (ops[j]?).bind (·.dst) = some t) (hv : look t σ = some u) (hne : u ≠ .bool b) (hd : d ∉ Looks ops i) : PF C ops Ib keep ((d, undef) :: σ) ds i d undef := by
  have hL : Looks ops i = Oper.looksAt ops { dst := some d, op := op, type := ty, pos := pos, after := after, guard := some (j, b) } := by simp [Looks, ho]
  refine ⟨_, ho, rfl, by simp [look_cons], hL ▸ hd, fun D a w hp hx hs => ⟨hop, .inr ⟨?_, rfl⟩⟩⟩
  have hp' := hp.less hp.ltOf
  obtain ⟨b', hb, hc⟩ := hp'.complete
  have hx' : ∀ t ∈ Oper.looksAt ops { dst := some d, op := op, type := ty, pos := pos, after := after, guard := some (j, b) }, t ∉ d :: D := fun t ht hm => by
    rcases List.mem_cons.1 hm with rfl | hm
    · exact hd (hL ▸ ht)
    · exact hx t ht hm
  rw [← hc.wanted hx']
  have : (yielded ops b'.tmps j == some b) = false := by
    simp only [yielded, hj, Option.bind_some, hb.val t _ hv]
    cases u <;> simp_all
  simp [Region.wanted, this]

/-! ### how many are left -/
def remain (ops : Array Oper) (listed : Array Bool) : Nat := ((List.range ops.size).filter fun j => !listed.getD j false).length

theorem filter_lt {α : Type} {p q : α → Bool} : ∀ (l : List α), (∀ x ∈ l, q x = true → p x = true) → (∃ x ∈ l, p x = true ∧ q x = false) → (l.filter q).length < (l.filter p).length
  | [], _, ⟨x, hx, _⟩ => by cases hx
  | y :: l, h1, h2 => by
    have hle : ∀ m : List α, (∀ x ∈ m, q x = true → p x = true) → (m.filter q).length ≤ (m.filter p).length := by
      intro m
      induction m with
      | nil => simp
      | cons z m ih =>
        intro h
        have := ih (fun x hx => h x (List.mem_cons_of_mem _ hx))
        have hz := h z (List.mem_cons_self ..)
        cases hq : q z <;> cases hp : p z <;> simp_all <;> omega
    have hl := hle l (fun x hx => h1 x (List.mem_cons_of_mem _ hx))
    have hy := h1 y (List.mem_cons_self ..)
    cases hq : q y <;> cases hp : p y
    · obtain ⟨x, hx, hx1, hx2⟩ := h2
      rcases List.mem_cons.1 hx with rfl | hx
      · rw [hp] at hx1; cases hx1
      · simpa [hq, hp] using filter_lt l (fun x hx => h1 x (List.mem_cons_of_mem _ hx)) ⟨x, hx, hx1, hx2⟩
    · simp [hq, hp]; omega
    · rw [hq, hp] at hy; simp at hy
    · obtain ⟨x, hx, hx1, hx2⟩ := h2
      rcases List.mem_cons.1 hx with rfl | hx
      · rw [hq] at hx2; cases hx2
      · simpa [hq, hp] using filter_lt l (fun x hx => h1 x (List.mem_cons_of_mem _ hx)) ⟨x, hx, hx1, hx2⟩

theorem getD_set {listed : Array Bool} {i j : Nat} (hi : i < listed.size) : (listed.setIfInBounds i true).getD j false = if i = j then true else listed.getD j false := by
  by_cases h : i = j
  · subst h; simp [hi]
  · simp [h, Array.getElem?_setIfInBounds_ne h]

theorem remain_set {listed : Array Bool} {i : Nat} (hs : listed.size = ops.size) (hi : i < ops.size) (hu : listed.getD i false = false) : remain ops (listed.setIfInBounds i true) < remain ops listed := by
  unfold remain
  refine filter_lt _ (fun x _ hx => ?_) ⟨i, List.mem_range.2 hi, by simp only [hu]; rfl, by rw [getD_set (by omega)]; simp⟩
  rw [getD_set (by omega)] at hx
  split at hx
  · simp at hx
  · exact hx

theorem ready_nil {listed : Array Bool} (hb : backs ops = true) (hs : listed.size = ops.size) (hr : Region.ready .any ops listed = []) : ∀ j, j < ops.size → listed.getD j false = true := by
  intro j
  induction j using Nat.strongRecOn with
  | _ j ih =>
    intro hj
    cases hl : listed.getD j false with
    | true => rfl
    | false =>
      exfalso
      have hm : j ∈ Region.ready .any ops listed := by
        rw [mem_ready]
        have ho : ops[j]? = some ops[j] := by simp [hj]
        refine ⟨?_, _, ho, fun e he hbe => ?_⟩
        · have : listed.getD j true = listed.getD j false := by simp [hs, hj]
          rw [this]; exact hl
        · have h1 := List.all_eq_true.1 hb j (List.mem_range.2 hj)
          rw [ho] at h1
          have h2 := Array.all_eq_true_iff_forall_mem.1 h1 e he
          simp only [hbe, Bool.not_true, Bool.false_or, Nat.blt_eq] at h2
          exact ih e.on h2 (by omega)
      rw [hr] at hm
      cases hm

/-! ### the walk -/
abbrev Pend := List (Nat × Nat × Value)
/-- What is asked of what is pending. -/
def Side (Ib I : Imm) (keep : Nat → List Ent) (pend : Pend) (δ : List Ent) : Prop := ∀ p ∈ pend, Ib.le I ∧ ∀ x ∈ keep p.1, x ∈ δ
def idx (pend : Pend) : List (Nat × Nat) := pend.map fun p => (p.1, p.2.1)

structure EJ (C : Ctx) (ops : Array Oper) (Q : Exit → Act → World → Prop) (Ib : Imm) (keep : Nat → List Ent) (ord : Plan) (pend : Pend) (listed : Array Bool) (σ : Env) (ds : List Nat) (I : Imm) (δ : List Ent) : Prop where
  run : backs ops = true → listed.size = ops.size → chk ops listed (idx pend) ord = true → (∀ i, (blks (keep i)).Nodup) → (∀ p ∈ pend, PF C ops Ib (keep p.1) σ ds p.1 p.2.1 p.2.2) → (∀ p ∈ pend, Ib.le I ∧ ∀ x ∈ keep p.1, x ∈ δ) → (∀ p ∈ pend, ∀ q ∈ pend, edge ops q.1 p.1 = true ∨ q.2.1 ∉ Looks ops p.1) → (∀ p ∈ pend, listed.getD p.1 false = true) →
    ∀ (U : Pend) (l : Array Bool) (fuel : Nat) (a : Act) (w : World), (∀ p ∈ U, p ∈ pend) → l.size = ops.size → (∀ j, l.getD j false = true ↔ listed.getD j false = true ∧ ∀ p ∈ U, p.1 ≠ j) → remain ops l ≤ fuel →
      Part C.n σ ds (U.map (·.2.1)) a → Sat w I δ → Tr C.w0 C.I0 C.δ0 w I δ → wpAnyIn C.F 0 C.P .any ops Q fuel l a w

theorem Sat.weak {w : World} {Ib : Imm} {keep : List Ent} (h : Sat w I δ) (hl : Ib.le I) (hk : ∀ x ∈ keep, x ∈ δ) (hn : (blks keep).Nodup) : Sat w Ib keep :=
  ⟨fun b o hb => h.imm b o (hl b o hb), fun x hx => h.ents x (hk x hx), hn, fun b hb => by
    obtain ⟨x, hx, hxb⟩ := List.mem_filterMap.1 hb
    have h1 := h.apart b (List.mem_filterMap.2 ⟨x, hk x hx, hxb⟩)
    cases h2 : Ib b with
    | none => rfl
    | some o => rw [hl b o h2] at h1; cases h1⟩

/-- What is pending comes up whenever it likes. -/
theorem EJ.of_main {Ib : Imm} {keep : Nat → List Ent} {ord : Plan} {pend : Pend} {listed : Array Bool}
    (hend : backs ops = true → listed.size = ops.size → chk ops listed (idx pend) ord = true → (∀ j, j < ops.size → listed.getD j false = true) → ∀ a w, EnvOK C.n σ ds a → Sat w I δ → Tr C.w0 C.I0 C.δ0 w I δ → Q .normal a w)
    (hmain : backs ops = true → listed.size = ops.size → chk ops listed (idx pend) ord = true → (∀ i, (blks (keep i)).Nodup) → (∀ p ∈ pend, PF C ops Ib (keep p.1) σ ds p.1 p.2.1 p.2.2) → (∀ p ∈ pend, Ib.le I ∧ ∀ x ∈ keep p.1, x ∈ δ) → (∀ p ∈ pend, ∀ q ∈ pend, edge ops q.1 p.1 = true ∨ q.2.1 ∉ Looks ops p.1) → (∀ p ∈ pend, listed.getD p.1 false = true) →
      ∀ j ∈ Region.ready .any ops listed, ∀ (U : Pend) (l : Array Bool) (fuel : Nat) (a : Act) (w : World), (∀ p ∈ U, p ∈ pend) → l.size = ops.size → (∀ j, l.getD j false = true ↔ listed.getD j false = true ∧ ∀ p ∈ U, p.1 ≠ j) → remain ops l ≤ fuel + 1 →
      j ∈ Region.ready .any ops l → Part C.n σ ds (U.map (·.2.1)) a → Sat w I δ → Tr C.w0 C.I0 C.δ0 w I δ → wpOpIn C.F 0 C.P ops Q j (wpAnyIn C.F 0 C.P .any ops Q fuel (l.setIfInBounds j true)) a w) :
    EJ C ops Q Ib keep ord pend listed σ ds I δ := by
  refine ⟨fun hb hsz hchk hnd hpf hk hcl hli => ?_⟩
  have nilcase : ∀ (U : Pend) (l : Array Bool) (a : Act) (w : World), (∀ p ∈ U, p ∈ pend) → l.size = ops.size → (∀ j, l.getD j false = true ↔ listed.getD j false = true ∧ ∀ p ∈ U, p.1 ≠ j) →
      Part C.n σ ds (U.map (·.2.1)) a → Sat w I δ → Tr C.w0 C.I0 C.δ0 w I δ → Region.ready .any ops l = [] → Q .normal a w := by
    intro U l a w hU hl hrel hp hs ht hr
    have hall := ready_nil hb hl hr
    have hUnil : U = [] := by
      cases U with
      | nil => rfl
      | cons p U =>
        exfalso
        obtain ⟨o, ho, _⟩ := hpf p (hU p (List.mem_cons_self ..))
        have hlt : p.1 < ops.size := (Array.getElem?_eq_some_iff.1 ho).1
        exact ((hrel p.1).1 (hall p.1 hlt)).2 p (List.mem_cons_self ..) rfl
    subst hUnil
    refine hend hb hsz hchk (fun j hj => ((hrel j).1 (hall j hj)).1) a w ⟨hp.size, fun d v hd => hp.val d v hd (by simp), hp.defers⟩ hs ht
  intro U l fuel
  induction fuel generalizing U l with
  | zero =>
    intro a w hU hl hrel hfuel hp hs ht
    have hr : Region.ready .any ops l = [] := by
      cases hr : Region.ready .any ops l with
      | nil => rfl
      | cons j rs =>
        exfalso
        have hm : j ∈ Region.ready .any ops l := by rw [hr]; exact List.mem_cons_self ..
        obtain ⟨h0, o, ho, _⟩ := mem_ready.1 hm
        have hlt : j < ops.size := (Array.getElem?_eq_some_iff.1 ho).1
        have : l.getD j false = false := by
          have : l.getD j true = l.getD j false := by simp [hl, hlt]
          rw [← this]; exact h0
        have := remain_set hl hlt this
        omega
    exact ⟨hr, nilcase U l a w hU hl hrel hp hs ht hr⟩
  | succ fuel ih =>
    intro a w hU hl hrel hfuel hp hs ht
    refine ⟨nilcase U l a w hU hl hrel hp hs ht, fun i hi => ?_⟩
    obtain ⟨h0, o, ho, hpre⟩ := mem_ready.1 hi
    have hlt : i < ops.size := (Array.getElem?_eq_some_iff.1 ho).1
    have hul : l.getD i false = false := by
      have : l.getD i true = l.getD i false := by simp [hl, hlt]
      rw [← this]; exact h0
    by_cases hin : ∃ p ∈ U, p.1 = i
    · obtain ⟨p, hpU, rfl⟩ := hin
      obtain ⟨o', ho', hdst, hlook, hself, hrun⟩ := hpf p (hU p hpU)
      have : o' = o := by rw [ho] at ho'; exact (Option.some.inj ho').symm
      subst this
      have hL : Looks ops p.1 = o'.looksAt ops := by simp [Looks, ho]
      -- what it looks at is there
      have hclean : ∀ t ∈ o'.looksAt ops, t ∉ U.map (·.2.1) := by
        intro t htl htm
        obtain ⟨q, hqU, rfl⟩ := List.mem_map.1 htm
        rcases hcl p (hU p hpU) q (hU q hqU) with he | hn
        · simp only [edge, ho] at he
          obtain ⟨e, hem, hee⟩ := Array.any_eq_true'.1 he
          simp only [Bool.and_eq_true, beq_iff_eq] at hee
          have := hpre e hem hee.1
          rw [hee.2] at this
          exact ((hrel q.1).1 this).2 q hqU rfl
        · exact hn (hL ▸ htl)
      have hkp := hk p (hU p hpU)
      obtain ⟨hnd', hyes⟩ := hrun _ a w hp hclean (hs.weak hkp.1 hkp.2 (hnd p.1))
      -- behind it
      have hnext : wpAnyIn C.F 0 C.P .any ops Q fuel (l.setIfInBounds p.1 true) (a.put (some p.2.1) p.2.2) w := by
        refine ih (U.filter fun q => q.1 != p.1) _ _ _ (fun q hq => hU q (List.mem_filter.1 hq).1) (by simpa using hl) (fun j => ?_) (by have := remain_set hl hlt hul; omega) ⟨by simp [Act.put, hp.size], by simpa [Act.put] using hp.defers, fun t u ht hn => ?_, fun t ht => ?_⟩ hs ht
        · rw [getD_set (by omega)]
          by_cases hj : p.1 = j
          · subst hj
            simp only [if_true, true_iff]
            exact ⟨hli p (hU p hpU), fun q hq e => by have := (List.mem_filter.1 hq).2; simp [e] at this⟩
          · rw [if_neg hj, hrel j]
            refine ⟨fun ⟨h1, h2⟩ => ⟨h1, fun q hq => h2 q (List.mem_filter.1 hq).1⟩, fun ⟨h1, h2⟩ => ⟨h1, fun q hq e => ?_⟩⟩
            exact h2 q (List.mem_filter.2 ⟨hq, by simp only [bne_iff_ne, ne_eq]; intro e'; exact hj (e'.symm.trans e)⟩) e
        · have hdlt : p.2.1 < a.tmps.size := by rw [hp.size]; exact hp.lt _ (List.mem_map_of_mem hpU)
          by_cases hd : p.2.1 = t
          · subst hd
            rw [hlook] at ht
            cases ht
            simp [Act.put, hdlt]
          · have hold : a.tmps[t]? = some u := hp.val t u ht (fun hm => by
              obtain ⟨q, hqU, hqt⟩ := List.mem_map.1 hm
              by_cases hq1 : q.1 = p.1
              · obtain ⟨o2, ho2, hd2, _⟩ := hpf q (hU q hqU)
                rw [hq1, ho] at ho2
                cases ho2
                rw [hdst] at hd2
                exact hd (by rw [← hqt]; exact Option.some.inj hd2)
              · exact hn (List.mem_map.2 ⟨q, List.mem_filter.2 ⟨hqU, by simpa using hq1⟩, hqt⟩))
            simp [Act.put, Array.getElem?_setIfInBounds_ne hd, hold]
        · obtain ⟨q, hq, rfl⟩ := List.mem_map.1 ht
          exact hp.lt _ (List.mem_map_of_mem (List.mem_filter.1 hq).1)
      unfold wpOpIn
      simp only [ho]
      rcases hyes with ⟨hw1, hr1⟩ | ⟨hw0, hv0⟩
      · rw [if_pos hw1]
        unfold Oper.wpIn
        refine ⟨fun _ _ => trivial, ?_⟩
        rw [semAt_eq _ _ _ hnd', hr1, Oper.uponIn_value, hdst]
        exact hnext
      · rw [if_neg (by simp [hw0])]
        refine ⟨fun _ _ => trivial, ?_⟩
        rw [hdst, ← hv0]
        exact hnext
    · have hnl : listed.getD i false = false := by
        cases hc : listed.getD i false with
        | false => rfl
        | true =>
          have := (hrel i).2 ⟨hc, fun p hp e => hin ⟨p, hp, e⟩⟩
          rw [hul] at this; cases this
      refine hmain hb hsz hchk hnd hpf hk hcl hli i ?_ U l fuel a w hU hl hrel hfuel hi hp hs ht
      rw [mem_ready]
      refine ⟨by have : listed.getD i true = listed.getD i false := by simp [hsz, hlt]
                 rw [this]; exact hnl, o, ho, fun e he hbe => ((hrel e.on).1 (hpre e he hbe)).1⟩

/-- All have come up. -/
theorem e_done {Ib : Imm} {keep : Nat → List Ent} {pend : Pend} {listed : Array Bool} (h : PostJ C Q .normal σ ds I δ) : EJ C ops Q Ib keep .done pend listed σ ds I δ := by
  refine EJ.of_main (fun _ _ _ _ a w he hs ht => h a w he hs ht) ?_
  intro _ hsz hchk _ _ _ _ _ j hj
  exfalso
  obtain ⟨h0, o, ho, _⟩ := mem_ready.1 hj
  have hlt : j < ops.size := (Array.getElem?_eq_some_iff.1 ho).1
  have h1 := List.all_eq_true.1 hchk j (List.mem_range.2 hlt)
  have h2 : listed.getD j true = listed.getD j false := by simp [hsz, hlt]
  rw [h2] at h0
  have h3 : listed.getD j false = true := h1
  rw [h3] at h0
  cases h0

/-- One that only yields a value. -/
theorem e_float {Ib : Imm} {keep : Nat → List Ent} {ord : Plan} {pend : Pend} {listed : Array Bool} {i d : Nat} {v : Value} (hdst : (ops[i]?).bind (·.dst) = some d) (hd : Nat.blt d C.n = true) (hpf : d ∉ Looks ops i → PF C ops Ib (keep i) ((d, v) :: σ) ds i d v) (hkeep : Ib.le I) (hsub : ∀ x ∈ keep i, x ∈ δ)
    (k : EJ C ops Q Ib keep ord ((i, d, v) :: pend) (listed.setIfInBounds i true) ((d, v) :: σ) ds I δ) : EJ C ops Q Ib keep (.fl i ord) pend listed σ ds I δ := by
  refine ⟨fun hb hsz hchk hnd hpfs hk hcl hli => ?_⟩
  simp only [chk, hdst, Bool.and_eq_true, Bool.not_eq_eq_eq_not, Bool.not_true] at hchk
  obtain ⟨⟨⟨⟨hul, hcf⟩, hkp⟩, hself⟩, hnext⟩ := hchk
  have hself' : d ∉ Looks ops i := by simpa using hself
  have hi : i < ops.size := by
    cases ho : ops[i]? with
    | none => simp [ho] at hdst
    | some o => exact (Array.getElem?_eq_some_iff.1 ho).1
  have hkp' : ∀ p ∈ pend, d ∉ Looks ops p.1 ∧ p.2.1 ≠ d := fun p hp => by
    have := List.all_eq_true.1 hkp (p.1, p.2.1) (List.mem_map_of_mem (f := fun p : Nat × Nat × Value => (p.1, p.2.1)) hp)
    simpa using this
  have hcf' : ∀ p ∈ pend, edge ops p.1 i = true ∨ p.2.1 ∉ Looks ops i := fun p hp => by
    have := List.all_eq_true.1 hcf (p.1, p.2.1) (List.mem_map_of_mem (f := fun p : Nat × Nat × Value => (p.1, p.2.1)) hp)
    simpa using this
  have hk' := k.run hb (by simpa using hsz) hnext hnd (fun p hp => by
      rcases List.mem_cons.1 hp with rfl | hp
      · exact hpf hself'
      · exact (hpfs p hp).ext (hkp' p hp).1 (hkp' p hp).2) (fun p hp => by
      rcases List.mem_cons.1 hp with rfl | hp
      · exact ⟨hkeep, hsub⟩
      · exact hk p hp)
    (fun p hp q hq => by
      rcases List.mem_cons.1 hp with rfl | hp <;> rcases List.mem_cons.1 hq with rfl | hq
      · exact .inr hself'
      · exact hcf' q hq
      · exact .inr (hkp' p hp).1
      · exact hcl p hp q hq)
    (fun p hp => by
      rw [getD_set (by omega)]
      split
      · rfl
      · rcases List.mem_cons.1 hp with rfl | hp
        · rename_i hne; exact absurd rfl hne
        · exact hli p hp)
  intro U l fuel a w hU hl hrel hfuel hp hs ht
  have hdn : d < C.n := by simpa [Nat.blt_eq] using hd
  refine hk' ((i, d, v) :: U) l fuel a w (fun p hp => ?_) hl (fun j => ?_) hfuel ⟨hp.size, hp.defers, fun t u htl hn => ?_, fun t htm => ?_⟩ hs ht
  · rcases List.mem_cons.1 hp with rfl | hp
    · exact List.mem_cons_self ..
    · exact List.mem_cons_of_mem _ (hU p hp)
  · rw [hrel j, getD_set (by omega)]
    by_cases hij : i = j
    · subst hij
      simp only [if_true, true_and]
      constructor
      · rintro ⟨h1, _⟩; rw [hul] at h1; cases h1
      · intro h; exact absurd rfl (h (i, d, v) (List.mem_cons_self ..))
    · simp only [if_neg hij]
      refine and_congr Iff.rfl ⟨fun h p hp => ?_, fun h p hp => h p (List.mem_cons_of_mem _ hp)⟩
      rcases List.mem_cons.1 hp with rfl | hp
      · exact hij
      · exact h p hp
  · simp only [List.map_cons, List.mem_cons, not_or] at hn
    rw [look_cons, if_neg (fun e => hn.1 e.symm)] at htl
    exact hp.val t u htl hn.2
  · simp only [List.map_cons, List.mem_cons] at htm
    rcases htm with rfl | htm
    · exact hdn
    · exact hp.lt t htm

/-- Behind an operation that acts. -/
def Next (C : Ctx) (ops : Array Oper) (Q : Exit → Act → World → Prop) (Ib : Imm) (keep : Nat → List Ent) (ord : Plan) (pend : Pend) (listed : Array Bool) (σ : Env) (ds : List Nat) (dst : Option Nat) : Act → World → Prop := fun a w =>
  ∃ σ' I' δ', (σ' = σ ∨ ∃ d v, dst = some d ∧ σ' = (d, v) :: σ) ∧ (∀ p ∈ pend, Ib.le I' ∧ ∀ x ∈ keep p.1, x ∈ δ') ∧ EnvOK C.n σ' ds a ∧ Sat w I' δ' ∧ Tr C.w0 C.I0 C.δ0 w I' δ' ∧
    EJ C ops Q Ib keep ord pend listed σ' ds I' δ'

def still (ops : Array Oper) (pend : Pend) (j : Nat) : Pend := pend.filter fun p => !edge ops p.1 j

theorem eff_body {Ib : Imm} {keep : Nat → List Ent} {ord : Plan} {pend : Pend} {listed : Array Bool} {i : Nat} {o : Oper} (ho : ops[i]? = some o) (hsel : ∀ cs b, o.op ≠ .select cs b) (hdef : ∀ c, o.op ≠ .defer c)
    (k : OpsJ C ops (Exit.then (Next C ops Q Ib keep ord (still ops pend i) (listed.setIfInBounds i true) σ ds o.dst) NoQ) [o] σ ds I δ)
    (hb : backs ops = true) (hsz : listed.size = ops.size) (hok : effOK ops (idx pend) i = true) (hnext : chk ops (listed.setIfInBounds i true) ((idx pend).filter fun p => !edge ops p.1 i) ord = true) (hnd : ∀ i, (blks (keep i)).Nodup)
    (hpf : ∀ p ∈ pend, PF C ops Ib (keep p.1) σ ds p.1 p.2.1 p.2.2) (hk : ∀ p ∈ pend, Ib.le I ∧ ∀ x ∈ keep p.1, x ∈ δ) (hcl : ∀ p ∈ pend, ∀ q ∈ pend, edge ops q.1 p.1 = true ∨ q.2.1 ∉ Looks ops p.1) (hli : ∀ p ∈ pend, listed.getD p.1 false = true) (hir : i ∈ Region.ready .any ops listed)
    (U : Pend) (l : Array Bool) (fuel : Nat) (a : Act) (w : World) (hU : ∀ p ∈ U, p ∈ pend) (hl : l.size = ops.size) (hrel : ∀ j, l.getD j false = true ↔ listed.getD j false = true ∧ ∀ p ∈ U, p.1 ≠ j) (hfuel : remain ops l ≤ fuel + 1)
    (hil : i ∈ Region.ready .any ops l) (hp : Part C.n σ ds (U.map (·.2.1)) a) (hs : Sat w I δ) (ht : Tr C.w0 C.I0 C.δ0 w I δ) : wpOpIn C.F 0 C.P ops Q i (wpAnyIn C.F 0 C.P .any ops Q fuel (l.setIfInBounds i true)) a w := by
  have hL : Looks ops i = o.looksAt ops := by simp [Looks, ho]
  have hj : i < ops.size := (Array.getElem?_eq_some_iff.1 ho).1
  simp only [effOK, Bool.and_eq_true] at hok
  obtain ⟨hcf, hkp⟩ := hok
  obtain ⟨h0, o', ho', hpre⟩ := mem_ready.1 hil
  have : o' = o := by rw [ho] at ho'; exact (Option.some.inj ho').symm
  subst this
  have hul : l.getD i false = false := by
    have : l.getD i true = l.getD i false := by simp [hl, hj]
    rw [← this]; exact h0
  have hnl : listed.getD i false = false := by
    have h0 := (mem_ready.1 hir).1
    have : listed.getD i true = listed.getD i false := by simp [hsz, hj]
    rw [← this]; exact h0
  -- whoever has an edge to it has come up
  have hnoedge : ∀ p ∈ U, edge ops p.1 i = false := fun p hpU => by
    cases he : edge ops p.1 i with
    | false => rfl
    | true =>
      exfalso
      simp only [edge, ho] at he
      obtain ⟨e, hem, hee⟩ := Array.any_eq_true'.1 he
      simp only [Bool.and_eq_true, beq_iff_eq] at hee
      have := hpre e hem hee.1
      rw [hee.2] at this
      exact ((hrel p.1).1 this).2 p hpU rfl
  have hUs : ∀ p ∈ U, p ∈ still ops pend i := fun p hpU => List.mem_filter.2 ⟨hU p hpU, by simp [hnoedge p hpU]⟩
  have hclean : ∀ t ∈ o'.looksAt ops, t ∉ U.map (·.2.1) := by
    intro t htl htm
    obtain ⟨q, hqU, rfl⟩ := List.mem_map.1 htm
    have := List.all_eq_true.1 hcf (q.1, q.2.1) (List.mem_map_of_mem (f := fun p : Nat × Nat × Value => (p.1, p.2.1)) (hU q hqU))
    simp only [hnoedge q hqU, Bool.false_or, hL] at this
    simp [htl] at this
  obtain ⟨b, hbe, hbc⟩ := hp.complete
  have hrun := wpOp_compl (Q := Q) ho hbc hsel hdef hclean (k b w hbe hs ht)
  refine wpOpIn_mono ?_ hrun
  rintro a' w' ⟨b', hbc', σ', I', δ', hσ, hk', he', hs', ht', hej⟩
  have hidx : (idx pend).filter (fun p => !edge ops p.1 i) = idx (still ops pend i) := by
    simp only [idx, still, List.filter_map]
    rfl
  rw [hidx] at hnext
  have hstill : ∀ p ∈ still ops pend i, p ∈ pend := fun p hp => (List.mem_filter.1 hp).1
  refine hej.run hb (by simpa using hsz) hnext hnd (fun p hp' => ?_) hk' (fun p hp q hq => hcl p (hstill p hp) q (hstill q hq)) (fun p hp' => ?_) U _ fuel a' w' hUs (by simpa using hl) (fun j => ?_) (by have := remain_set hl hj hul; omega) (hbc'.back he' hp.lt) hs' ht'
  · rcases hσ with rfl | ⟨d, v, hd, rfl⟩
    · exact hpf p (hstill p hp')
    · have hkp2 := hkp
      simp only [ho, Option.bind_some, hd] at hkp2
      rw [hidx] at hkp2
      have := List.all_eq_true.1 hkp2 (p.1, p.2.1) (List.mem_map_of_mem (f := fun p : Nat × Nat × Value => (p.1, p.2.1)) hp')
      simp at this
      exact (hpf p (hstill p hp')).ext this.1 this.2
  · rw [getD_set (by omega)]
    split
    · rfl
    · exact hli p (hstill p hp')
  · rw [getD_set (by omega), getD_set (by omega)]
    by_cases hij : i = j
    · subst hij
      simp only [if_true, true_and, true_iff]
      intro p hpU e
      have := hli p (hU p hpU)
      rw [e, hnl] at this
      cases this
    · simp only [if_neg hij]; exact hrel j

theorem eff_end {listed : Array Bool} {j : Nat} (hj : j < ops.size) (hsz : listed.size = ops.size) (hall : ∀ j, j < ops.size → listed.getD j false = true) (hm : j ∈ Region.ready .any ops listed) : False := by
  have h0 := (mem_ready.1 hm).1
  have h2 : listed.getD j true = listed.getD j false := by simp [hsz, hj]
  rw [h2, hall j hj] at h0
  cases h0
/-- One that acts, or a call. -/
theorem e_eff {Ib : Imm} {keep : Nat → List Ent} {ord : Plan} {pend : Pend} {listed : Array Bool} {j : Nat} {o : Oper} (ho : ops[j]? = some o) (hsel : ∀ cs b, o.op ≠ .select cs b) (hdef : ∀ c, o.op ≠ .defer c)
    (k : OpsJ C ops (Exit.then (Next C ops Q Ib keep ord (still ops pend j) (listed.setIfInBounds j true) σ ds o.dst) NoQ) [o] σ ds I δ) : EJ C ops Q Ib keep (.ef j ord) pend listed σ ds I δ := by
  have hj : j < ops.size := (Array.getElem?_eq_some_iff.1 ho).1
  refine EJ.of_main (fun _ hsz hchk hall => ?_) ?_
  · exfalso
    simp only [chk, Bool.and_eq_true, beq_iff_eq] at hchk
    exact eff_end hj hsz hall (by rw [hchk.1]; exact List.mem_cons_self ..)
  · intro hb hsz hchk hnd hpf hk hcl hli i hi
    simp only [chk, Bool.and_eq_true, beq_iff_eq] at hchk
    obtain ⟨hr, hok, hnext⟩ := hchk
    have hir := hi
    rw [hr, List.mem_singleton] at hi
    subst hi
    exact eff_body ho hsel hdef k hb hsz hok hnext hnd hpf hk hcl hli hir
/-- Two that act, in either order. -/
theorem e_two {Ib : Imm} {keep : Nat → List Ent} {ord ord' : Plan} {pend : Pend} {listed : Array Bool} {j j' : Nat} {o o' : Oper} (ho : ops[j]? = some o) (hsel : ∀ cs b, o.op ≠ .select cs b) (hdef : ∀ c, o.op ≠ .defer c)
    (ho' : ops[j']? = some o') (hsel' : ∀ cs b, o'.op ≠ .select cs b) (hdef' : ∀ c, o'.op ≠ .defer c)
    (k : OpsJ C ops (Exit.then (Next C ops Q Ib keep ord (still ops pend j) (listed.setIfInBounds j true) σ ds o.dst) NoQ) [o] σ ds I δ)
    (k' : OpsJ C ops (Exit.then (Next C ops Q Ib keep ord' (still ops pend j') (listed.setIfInBounds j' true) σ ds o'.dst) NoQ) [o'] σ ds I δ) : EJ C ops Q Ib keep (.two j j' ord ord') pend listed σ ds I δ := by
  have hj : j < ops.size := (Array.getElem?_eq_some_iff.1 ho).1
  refine EJ.of_main (fun _ hsz hchk hall => ?_) ?_
  · exfalso
    simp only [chk, Bool.and_eq_true, beq_iff_eq] at hchk
    exact eff_end hj hsz hall (by rw [hchk.1]; exact List.mem_cons_self ..)
  · intro hb hsz hchk hnd hpf hk hcl hli i hi
    simp only [chk, Bool.and_eq_true, beq_iff_eq] at hchk
    obtain ⟨hr, ⟨hok, hnext⟩, hok', hnext'⟩ := hchk
    have hir := hi
    rw [hr] at hi
    rcases List.mem_cons.1 hi with rfl | hi
    · exact eff_body ho hsel hdef k hb hsz hok hnext hnd hpf hk hcl hli hir
    · rw [List.mem_singleton] at hi
      subst hi
      exact eff_body ho' hsel' hdef' k' hb hsz hok' hnext' hnd hpf hk hcl hli hir

/-- A region that draws its order. -/
theorem code_draw {id : Nat} {l : List Oper} (ord : Plan) (keep : Nat → List Ent) (hm : C.P.follows .mixedOrders = true) (hb : backs l.toArray = true) (hc : chk l.toArray (Array.replicate l.toArray.size false) [] ord = true) (hk : ∀ i, (keep i).Sublist δ)
    (k : EJ C l.toArray Q I keep ord [] (Array.replicate l.toArray.size false) σ ds I δ) : CodeJ C (.region id l.toArray true) Q σ ds I δ := by
  intro a w he hs ht
  refine wpIn_region_any hm ?_
  obtain ⟨s', t'⟩ := hs.drew
  refine k.run hb (by simp) hc (fun i => hs.nodup.sublist ((hk i).filterMap _)) (fun p hp => by cases hp) (fun p hp => by cases hp) (fun p hp => by cases hp) (fun p hp => by cases hp) [] _ _ a _ (fun p hp => by cases hp) (by simp) (fun j => ?_) ?_ ⟨he.size, he.defers, fun d v hd _ => he.val d v hd, fun d hd => by cases hd⟩ s' (ht.trans t')
  · constructor
    · intro h; exact ⟨h, fun p hp => by cases hp⟩
    · intro h; exact h.1
  · exact Nat.le_trans (List.length_filter_le _ _) (by simp)

theorem e_next {Ib : Imm} {keep : Nat → List Ent} {ord : Plan} {pend : Pend} {listed : Array Bool} {d : Nat} {v : Value} {dst : Option Nat} (hd : dst = some d) (hk : Side Ib I keep pend δ)
    (k : EJ C ops Q Ib keep ord pend listed ((d, v) :: σ) ds I δ) : PostJ C (Exit.then (Next C ops Q Ib keep ord pend listed σ ds dst) NoQ) .normal ((d, v) :: σ) ds I δ :=
  fun _ _ he hs ht => ⟨_, I, δ, .inr ⟨d, v, hd, rfl⟩, hk, he, hs, ht, k⟩
theorem e_next_ {Ib : Imm} {keep : Nat → List Ent} {ord : Plan} {pend : Pend} {listed : Array Bool} {dst : Option Nat} (hk : Side Ib I keep pend δ)
    (k : EJ C ops Q Ib keep ord pend listed σ ds I δ) : PostJ C (Exit.then (Next C ops Q Ib keep ord pend listed σ ds dst) NoQ) .normal σ ds I δ :=
  fun _ _ he hs ht => ⟨_, I, δ, .inl rfl, hk, he, hs, ht, k⟩
theorem side_nil {Ib : Imm} {keep : Nat → List Ent} {pend : Pend} (h : pend = []) : Side Ib I keep pend δ := by subst h; intro p hp; cases hp
theorem side_all {Ib : Imm} {keep : Nat → List Ent} {pend : Pend} (h1 : Ib.le I) (h2 : ∀ i, ∀ x ∈ keep i, x ∈ δ) : Side Ib I keep pend δ := fun p _ => ⟨h1, h2 p.1⟩
def two (k : Nat) (A B : List Ent) (i : Nat) : List Ent := bif Nat.blt i k then A else B
theorem two_sub {k : Nat} {A B : List Ent} (h1 : A.Sublist δ) (h2 : B.Sublist δ) (i : Nat) : (two k A B i).Sublist δ := by unfold two; cases Nat.blt i k <;> assumption
theorem side_two {Ib : Imm} {k : Nat} {A B : List Ent} {pend : Pend} (hp : pend.all (fun p => !(Nat.blt p.1 k)) = true) (h1 : Ib.le I) (h2 : ∀ x ∈ B, x ∈ δ) : Side Ib I (two k A B) pend δ := fun p hm => by
  have := List.all_eq_true.1 hp p hm
  simp only [Bool.not_eq_true'] at this
  exact ⟨h1, by unfold two; rw [this]; exact h2⟩
end Go.Proofs.Ythbcdffldcdfoaa.Lg
