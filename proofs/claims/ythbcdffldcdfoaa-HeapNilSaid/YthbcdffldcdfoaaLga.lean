/- A small program logic over the kit's walk: an immutable part of the heap, owned entries, slots by name. Plain definitions and theorems; no condition. -/
import Derived.RangeFuncLeaves
import Derived.RangeFuncCalls
import Derived.TacticsIn
import Derived.OrdersIn
import Derived.Maps.AppendAt
import Derived.Laws.MakeOwn
import Derived.Laws.OwnMore
import Derived.Laws.Rows
import Derived.Laws.Wrap64
import Derived.WalkKit
import Derived.KernelRfl
namespace Go.Proofs.Ythbcdffldcdfoaa.Lg
open Go Go.RowKit

/-! ### slots -/
abbrev Env := List (Nat × Value)
def look (d : Nat) : Env → Option Value
  | [] => none
  | (e, v) :: r => bif Nat.beq e d then some v else look d r

def marksOf (ds : List Nat) : List Deferred := ds.map fun r => { target := .collected r, args := #[] }

structure EnvOK (n : Nat) (σ : Env) (ds : List Nat) (a : Act) : Prop where
  size : a.tmps.size = n
  val : ∀ d v, look d σ = some v → a.tmps[d]? = some v
  defers : a.defers = marksOf ds

def evS (σ : Env) : Operand → Option Value
  | .tmp t => look t σ
  | .const v => some v
  | .global g => some (.pointer (some ⟨g, 0, none⟩))
  | .func f => some (.func (.func f) #[] #[])

def evL (σ : Env) : List Operand → Option (List Value)
  | [] => some []
  | x :: r => match evS σ x, evL σ r with
    | some v, some vs => some (v :: vs)
    | _, _ => none

theorem EnvOK.ev {n : Nat} {σ : Env} {ds : List Nat} {a : Act} (h : EnvOK n σ ds a) {x : Operand} {v : Value} (hx : evS σ x = some v) : a.eval x = v := by
  cases x with
  | tmp t =>
    have := h.val t v hx
    simp [Act.eval, this]
  | const u => simpa [evS, Act.eval] using hx
  | global g => simpa [evS, Act.eval] using hx
  | func f => simpa [evS, Act.eval] using hx

theorem EnvOK.evs {n : Nat} {σ : Env} {ds : List Nat} {a : Act} (h : EnvOK n σ ds a) : ∀ {xs : List Operand} {vs : List Value}, evL σ xs = some vs → xs.map a.eval = vs
  | [], vs, hx => by simp [evL] at hx; simp [← hx]
  | x :: r, vs, hx => by
    simp only [evL] at hx
    cases h1 : evS σ x with
    | none => simp [h1] at hx
    | some v =>
      cases h2 : evL σ r with
      | none => simp [h1, h2] at hx
      | some us =>
        simp [h1, h2] at hx
        subst hx
        simp [h.ev h1, h.evs h2]

theorem look_cons (d e : Nat) (v : Value) (σ : Env) : look d ((e, v) :: σ) = if e = d then some v else look d σ := by
  simp only [look]
  by_cases h : e = d
  · simp [h]
  · have : Nat.beq e d = false := by
      cases hb : Nat.beq e d with
      | false => rfl
      | true => exact absurd (Nat.eq_of_beq_eq_true hb) h
    simp [this, h]

theorem EnvOK.put {n : Nat} {σ : Env} {ds : List Nat} {a : Act} (h : EnvOK n σ ds a) {d : Nat} (hd : Nat.blt d n = true) (v : Value) : EnvOK n ((d, v) :: σ) ds (a.put (some d) v) := by
  have hd' : d < n := by simpa [Nat.blt_eq] using hd
  refine ⟨by simp [Act.put, h.size], fun e u he => ?_, by simpa [Act.put] using h.defers⟩
  rw [look_cons] at he
  by_cases hed : d = e
  · subst hed
    simp at he
    subst he
    simp [Act.put, h.size, hd']
  · simp [hed] at he
    simp [Act.put, Array.getElem?_setIfInBounds_ne hed, h.val e u he]

theorem EnvOK.put' {n : Nat} {σ : Env} {ds : List Nat} {a : Act} (h : EnvOK n σ ds a) {o : Option Nat} (ho : o = none) (v : Value) : EnvOK n σ ds (a.put o v) := by
  subst ho; exact h

/-- Fewer slots. -/
def SubEnv : Env → Env → Prop
  | [], _ => True
  | (d, v) :: r, σ => look d σ = some v ∧ SubEnv r σ

theorem SubEnv.ok : ∀ {σ' σ : Env}, SubEnv σ' σ → ∀ d v, look d σ' = some v → look d σ = some v
  | [], _, _, d, v, h => by simp [look] at h
  | (e, u) :: r, σ, hs, d, v, h => by
    rw [look_cons] at h
    by_cases hed : e = d
    · subst hed; simp at h; subst h; exact hs.1
    · simp [hed] at h; exact SubEnv.ok hs.2 d v h

theorem EnvOK.sub {n : Nat} {σ σ' : Env} {ds : List Nat} {a : Act} (h : EnvOK n σ ds a) (hs : SubEnv σ' σ) : EnvOK n σ' ds a :=
  ⟨h.size, fun d v hd => h.val d v (hs.ok d v hd), h.defers⟩

/-! ### the heap: an immutable part, owned entries -/
abbrev Imm := Nat → Option Obj
def Imm.le (I J : Imm) : Prop := ∀ b o, I b = some o → J b = some o
def Imm.cell (I : Imm) (a : Addr) : Option Value :=
  match I a.block with
  | some (.cells c _ _) => if a.spot.isSome then none else c[a.off]?
  | _ => none
def Imm.cellO (I : Imm) : Option Addr → Option Value
  | some a => I.cell a
  | none => none
def Imm.ins (I : Imm) (b : Nat) (o : Obj) : Imm := fun k => if k = b then some o else I k
theorem Imm.le_refl (I : Imm) : I.le I := fun _ _ h => h
theorem Imm.le_trans {I J K : Imm} (h : I.le J) (k : J.le K) : I.le K := fun b o hb => k b o (h b o hb)
theorem Imm.le_cell {I J : Imm} (h : I.le J) {a : Addr} {v : Value} (hc : I.cell a = some v) : J.cell a = some v := by
  unfold Imm.cell at *
  cases hb : I a.block with
  | none => simp [hb] at hc
  | some o => rw [hb] at hc; rw [h _ _ hb]; exact hc
theorem Imm.le_cellO {I J : Imm} (h : I.le J) {a : Option Addr} {v : Value} (hc : I.cellO a = some v) : J.cellO a = some v := by
  cases a with
  | none => simp [Imm.cellO] at hc
  | some a => exact Imm.le_cell h hc
theorem Imm.le_ins {I : Imm} {b : Nat} {o : Obj} (h : I b = none) : I.le (I.ins b o) := fun k p hk => by
  unfold Imm.ins
  by_cases e : k = b
  · subst e; rw [h] at hk; cases hk
  · simp [e, hk]

/-- A map's entries, keys of whole numbers: in the order in which they came. -/
abbrev Mp := List (Int × Value)
structure MapIs (es : Array MapEntry) (clock : Nat) (xs : Mp) : Prop where
  kv : es.toList.map (fun e => (e.key, e.val)) = xs.map (fun p => (Value.int .i64 p.1, p.2))
  keys : (xs.map (·.1)).Nodup
  born : (es.toList.map (·.born)).Nodup
  old : ∀ e ∈ es.toList, e.born < clock

inductive Ent where
  | box (b : Nat) (e : TypeId) (cs : List Value)
  | row (v : Value) (e : TypeId) (size n : Nat) (xs : List Value)
  | obj (b : Nat) (o : Obj)
  | map (b : Nat) (xs : Mp)

def Ent.blk : Ent → Option Nat
  | .box b _ _ => some b
  | .row v _ _ _ _ => v.ownBlock
  | .obj b _ => some b
  | .map b _ => some b

def Ent.holds (w : World) : Ent → Prop
  | .box b e cs => w.heap[b]? = some (.cells cs.toArray e (0, 0))
  | .row v e size n xs => w.ownsRow 0 e size v n xs
  | .obj b o => w.heap[b]? = some o
  | .map b xs => ∃ es clock, w.heap[b]? = some (.map es clock) ∧ MapIs es clock xs

abbrev blks (δ : List Ent) : List Nat := δ.filterMap Ent.blk

structure Sat (w : World) (I : Imm) (δ : List Ent) : Prop where
  imm : ∀ b o, I b = some o → w.heap[b]? = some o
  ents : ∀ x ∈ δ, x.holds w
  nodup : (blks δ).Nodup
  apart : ∀ b ∈ blks δ, I b = none

structure Tr (w : World) (I : Imm) (δ : List Ent) (w' : World) (I' : Imm) (δ' : List Ent) : Prop where
  os : w'.os = w.os
  tape : w'.tape = w.tape
  output : w'.output = w.output
  size : w.heap.size ≤ w'.heap.size
  same : ∀ b, b < w.heap.size → b ∉ blks δ → w'.heap[b]? = w.heap[b]?
  imm : I.le I'
  freshI : ∀ b o, I' b = some o → I b = none → b ∈ blks δ ∨ w.heap.size ≤ b
  freshD : ∀ b ∈ blks δ', b ∈ blks δ ∨ w.heap.size ≤ b

theorem Tr.refl (w : World) (I : Imm) (δ : List Ent) : Tr w I δ w I δ :=
  ⟨rfl, rfl, rfl, Nat.le_refl _, fun _ _ _ => rfl, Imm.le_refl _, fun b o h1 h2 => (by rw [h1] at h2; cases h2), fun _ h => .inl h⟩

theorem Tr.trans {w w1 w2 : World} {I I1 I2 : Imm} {δ δ1 δ2 : List Ent} (h : Tr w I δ w1 I1 δ1) (k : Tr w1 I1 δ1 w2 I2 δ2) : Tr w I δ w2 I2 δ2 where
  os := k.os.trans h.os
  tape := k.tape.trans h.tape
  output := k.output.trans h.output
  size := Nat.le_trans h.size k.size
  same := fun b hb hn => (k.same b (Nat.lt_of_lt_of_le hb h.size) (fun hm => by
    rcases h.freshD b hm with h1 | h1
    · exact hn h1
    · omega)).trans (h.same b hb hn)
  imm := Imm.le_trans h.imm k.imm
  freshI := fun b o h1 h2 => by
    cases h3 : I1 b with
    | some p => exact h.freshI b p h3 h2
    | none =>
      rcases k.freshI b o h1 h3 with h4 | h4
      · exact h.freshD b h4
      · exact .inr (Nat.le_trans h.size h4)
  freshD := fun b hb => by
    rcases k.freshD b hb with h4 | h4
    · exact h.freshD b h4
    · exact .inr (Nat.le_trans h.size h4)

theorem Ent.lt {w : World} {x : Ent} (h : x.holds w) {b : Nat} (hb : x.blk = some b) : b < w.heap.size := by
  cases x with
  | box c e cs => simp [Ent.blk] at hb; subst hb; exact (Array.getElem?_eq_some_iff.1 h).1
  | obj c o => simp [Ent.blk] at hb; subst hb; exact (Array.getElem?_eq_some_iff.1 h).1
  | map c xs => obtain ⟨es, clock, h, _⟩ := h; simp [Ent.blk] at hb; subst hb; exact (Array.getElem?_eq_some_iff.1 h).1
  | row v e s n xs => exact (World.ownsRow.lt h b hb).2

theorem Sat.lt {w : World} {I : Imm} {δ : List Ent} (h : Sat w I δ) {b : Nat} (hb : b ∈ blks δ) : b < w.heap.size := by
  obtain ⟨x, hx, hxb⟩ := List.mem_filterMap.1 hb
  exact Ent.lt (h.ents x hx) hxb
theorem Sat.ltI {w : World} {I : Imm} {δ : List Ent} (h : Sat w I δ) {b : Nat} {o : Obj} (hb : I b = some o) : b < w.heap.size :=
  (Array.getElem?_eq_some_iff.1 (h.imm b o hb)).1

theorem Sat.cell {w : World} {I : Imm} {δ : List Ent} (h : Sat w I δ) {a : Addr} {v : Value} (hc : I.cell a = some v) : w.cell? a = some v := by
  unfold Imm.cell at hc
  unfold World.cell?
  cases hb : I a.block with
  | none => simp [hb] at hc
  | some o => rw [hb] at hc; rw [h.imm _ _ hb]; exact hc

/-- An entry is kept by a change elsewhere. -/
theorem Ent.kept {w w' : World} {x : Ent} (h : x.holds w) (hs : ∀ b, x.blk = some b → w'.heap[b]? = w.heap[b]?) : x.holds w' := by
  cases x with
  | box c e cs => exact (hs c rfl).trans h
  | obj c o => exact (hs c rfl).trans h
  | map c xs => obtain ⟨es, clock, h, h2⟩ := h; exact ⟨es, clock, (hs c rfl).trans h, h2⟩
  | row v e s n xs =>
    obtain ⟨h1, h2⟩ := h
    refine ⟨h1, ?_⟩
    rcases h2 with h2 | ⟨g, cap, cur, rfl, h3, h4, h5⟩
    · exact .inl h2
    · exact .inr ⟨g, cap, cur, rfl, h3, (hs g rfl).trans h4, h5⟩

theorem Sat.perm {w : World} {I : Imm} {δ δ' : List Ent} (h : Sat w I δ) (hp : δ.Perm δ') : Sat w I δ' :=
  ⟨h.imm, fun x hx => h.ents x (hp.mem_iff.2 hx), (hp.filterMap _).nodup_iff.1 h.nodup, fun b hb => h.apart b ((hp.filterMap _).mem_iff.2 hb)⟩
theorem Tr.permL {w w' : World} {I I' : Imm} {δ δ1 δ' : List Ent} (h : Tr w I δ w' I' δ') (hp : δ.Perm δ1) : Tr w I δ1 w' I' δ' :=
  have hm : ∀ b, b ∈ blks δ ↔ b ∈ blks δ1 := fun _ => (hp.filterMap _).mem_iff
  ⟨h.os, h.tape, h.output, h.size, fun b hb hn => h.same b hb (fun k => hn ((hm b).1 k)), h.imm, fun b o h1 h2 => (h.freshI b o h1 h2).imp (hm b).1 id, fun b hb => (h.freshD b hb).imp (hm b).1 id⟩
theorem Tr.permR {w w' : World} {I I' : Imm} {δ δ' δ1 : List Ent} (h : Tr w I δ w' I' δ') (hp : δ'.Perm δ1) : Tr w I δ w' I' δ1 :=
  ⟨h.os, h.tape, h.output, h.size, h.same, h.imm, h.freshI, fun b hb => h.freshD b ((hp.filterMap _).mem_iff.2 hb)⟩

/-- What a part does leaves the rest. -/
theorem frame {w w' : World} {I I' : Imm} {δc δc' δr : List Ent} (h : Sat w I (δc ++ δr)) (h' : Sat w' I' δc') (t : Tr w I δc w' I' δc') :
    Sat w' I' (δc' ++ δr) ∧ Tr w I (δc ++ δr) w' I' (δc' ++ δr) := by
  have hb : blks (δc ++ δr) = blks δc ++ blks δr := List.filterMap_append
  have hb' : blks (δc' ++ δr) = blks δc' ++ blks δr := List.filterMap_append
  have hnd := h.nodup
  rw [hb, List.nodup_append] at hnd
  have ltr : ∀ b ∈ blks δr, b < w.heap.size := fun b hm => h.lt (by rw [hb]; exact List.mem_append_right _ hm)
  have keepr : ∀ b ∈ blks δr, w'.heap[b]? = w.heap[b]? := fun b hm => t.same b (ltr b hm) (fun hc => hnd.2.2 b hc b hm rfl)
  refine ⟨⟨h'.imm, ?_, ?_, ?_⟩, ⟨t.os, t.tape, t.output, t.size, ?_, t.imm, ?_, ?_⟩⟩
  · intro x hx
    rcases List.mem_append.1 hx with hx | hx
    · exact h'.ents x hx
    · exact Ent.kept (h.ents x (List.mem_append_right _ hx)) fun b hxb => keepr b (List.mem_filterMap.2 ⟨x, hx, hxb⟩)
  · rw [hb', List.nodup_append]
    refine ⟨h'.nodup, hnd.2.1, fun b hb1 c hc e => ?_⟩
    subst e
    rcases t.freshD b hb1 with h1 | h1
    · exact hnd.2.2 b h1 b hc rfl
    · have := ltr b hc; omega
  · intro b hm
    rw [hb'] at hm
    rcases List.mem_append.1 hm with hm | hm
    · exact h'.apart b hm
    · cases hI : I' b with
      | none => rfl
      | some o =>
        have hn : I b = none := h.apart b (by rw [hb]; exact List.mem_append_right _ hm)
        rcases t.freshI b o hI hn with h1 | h1
        · exact absurd rfl (hnd.2.2 b h1 b hm)
        · have := ltr b hm; omega
  · intro b hlt hn
    exact t.same b hlt fun hm => hn (by rw [hb]; exact List.mem_append_left _ hm)
  · intro b o h1 h2
    rcases t.freshI b o h1 h2 with h3 | h3
    · exact .inl (by rw [hb]; exact List.mem_append_left _ h3)
    · exact .inr h3
  · intro b hm
    rw [hb'] at hm
    rcases List.mem_append.1 hm with hm | hm
    · exact (t.freshD b hm).imp (fun h3 => by rw [hb]; exact List.mem_append_left _ h3) id
    · exact .inl (by rw [hb]; exact List.mem_append_right _ hm)

/-- A new block. -/
theorem Sat.alloc {w : World} {I : Imm} {δ : List Ent} (h : Sat w I δ) (x : Ent) (o : Obj) (hb : x.blk = some w.heap.size) (hx : x.holds (w.alloc o)) :
    Sat (w.alloc o) I (x :: δ) ∧ Tr w I δ (w.alloc o) I (x :: δ) := by
  have hold : ∀ b, b < w.heap.size → (w.alloc o).heap[b]? = w.heap[b]? := fun b hb => heap_alloc_old w o b hb
  have hbl : blks (x :: δ) = w.heap.size :: blks δ := by simp [blks, hb]
  refine ⟨⟨fun b p hp => (hold b (h.ltI hp)).trans (h.imm b p hp), ?_, ?_, ?_⟩, ⟨rfl, rfl, rfl, by simp, fun b hlt _ => hold b hlt, Imm.le_refl _, fun b p h1 h2 => (by rw [h1] at h2; cases h2), ?_⟩⟩
  · intro y hy
    rcases List.mem_cons.1 hy with rfl | hy
    · exact hx
    · exact Ent.kept (h.ents y hy) fun b hyb => hold b (h.lt (List.mem_filterMap.2 ⟨y, hy, hyb⟩))
  · rw [hbl, List.nodup_cons]
    exact ⟨fun hm => by have := h.lt hm; omega, h.nodup⟩
  · intro b hm
    rw [hbl] at hm
    rcases List.mem_cons.1 hm with rfl | hm
    · cases hI : I w.heap.size with
      | none => rfl
      | some p => have := h.ltI hI; omega
    · exact h.apart b hm
  · intro b hm
    rw [hbl] at hm
    rcases List.mem_cons.1 hm with rfl | hm
    · exact .inr (Nat.le_refl _)
    · exact .inl hm

theorem Sat.drew {w : World} {I : Imm} {δ : List Ent} (h : Sat w I δ) : Sat { w with drawn := w.drawn + 1 } I δ ∧ Tr w I δ { w with drawn := w.drawn + 1 } I δ :=
  ⟨⟨h.imm, fun x hx => Ent.kept (h.ents x hx) fun _ _ => rfl, h.nodup, h.apart⟩, ⟨rfl, rfl, rfl, Nat.le_refl _, fun _ _ _ => rfl, Imm.le_refl _, fun b o h1 h2 => (by rw [h1] at h2; cases h2), fun _ h => .inl h⟩⟩

/-- One entry takes another's place. -/
inductive Swap : List Ent → Ent → List Ent → Ent → Prop
  | here {x x' : Ent} {r : List Ent} : Swap (x :: r) x (x' :: r) x'
  | there {x x' y : Ent} {r r' : List Ent} (h : Swap r x r' x') : Swap (y :: r) x (y :: r') x'

theorem Swap.split {δ δ' : List Ent} {x x' : Ent} (h : Swap δ x δ' x') : ∃ l r, δ = l ++ x :: r ∧ δ' = l ++ x' :: r := by
  induction h with
  | here => exact ⟨[], _, rfl, rfl⟩
  | there _ ih => obtain ⟨l, r, rfl, rfl⟩ := ih; exact ⟨_ :: l, r, rfl, rfl⟩

theorem Sat.swap {w w' : World} {I : Imm} {δ δ' : List Ent} {x x' : Ent} (h : Sat w I δ) (hs : Swap δ x δ' x')
    (hos : w'.os = w.os) (htape : w'.tape = w.tape) (hout : w'.output = w.output) (hsz : w.heap.size ≤ w'.heap.size)
    (hsame : ∀ b, b < w.heap.size → x.blk ≠ some b → w'.heap[b]? = w.heap[b]?) (hx : x'.holds w')
    (hb : ∀ b, x'.blk = some b → x.blk = some b ∨ w.heap.size ≤ b) : Sat w' I δ' ∧ Tr w I δ w' I δ' := by
  obtain ⟨l, r, rfl, rfl⟩ := hs.split
  have p1 : (l ++ x :: r).Perm ([x] ++ (l ++ r)) := List.perm_middle
  have p2 : (l ++ x' :: r).Perm ([x'] ++ (l ++ r)) := List.perm_middle
  have h1 := h.perm p1
  have hmem : x ∈ l ++ x :: r := by simp
  have hx' : Sat w' I [x'] := by
    refine ⟨fun b o ho => ?_, fun y hy => by simp at hy; subst hy; exact hx, ?_, ?_⟩
    · rw [hsame b (h.ltI ho) (fun e => ?_)]
      · exact h.imm b o ho
      · have : b ∈ blks (l ++ x :: r) := List.mem_filterMap.2 ⟨x, hmem, e⟩
        rw [h.apart b this] at ho; cases ho
    · cases hb' : x'.blk <;> simp [blks, hb']
    · intro b hm
      have hxb : x'.blk = some b := by simpa [blks] using hm
      rcases hb b hxb with h2 | h2
      · exact h.apart b (List.mem_filterMap.2 ⟨x, hmem, h2⟩)
      · cases hI : I b with
        | none => rfl
        | some o => have := h.ltI hI; omega
  have t : Tr w I [x] w' I [x'] := by
    refine ⟨hos, htape, hout, hsz, fun b hlt hn => hsame b hlt (fun e => hn (by simp [blks, e])), Imm.le_refl _, fun b o h1 h2 => (by rw [h1] at h2; cases h2), fun b hm => ?_⟩
    have hxb : x'.blk = some b := by simpa [blks] using hm
    rcases hb b hxb with h2 | h2
    · exact .inl (by simp [blks, h2])
    · exact .inr h2
  obtain ⟨f1, f2⟩ := frame (δr := l ++ r) h1 hx' t
  exact ⟨f1.perm p2.symm, (f2.permL p1.symm).permR p2.symm⟩

/-- An entry is let go, or becomes immutable. -/
inductive Del : List Ent → Ent → List Ent → Prop
  | here {x : Ent} {r : List Ent} : Del (x :: r) x r
  | there {x y : Ent} {r r' : List Ent} (h : Del r x r') : Del (y :: r) x (y :: r')
theorem Del.perm {δ δ' : List Ent} {x : Ent} (h : Del δ x δ') : δ.Perm (x :: δ') := by
  induction h with
  | here => exact .refl _
  | there _ ih => exact (List.Perm.cons _ ih).trans (List.Perm.swap _ _ _)

theorem Sat.drop {w : World} {I : Imm} {x : Ent} {δ : List Ent} (h : Sat w I (x :: δ)) : Sat w I δ ∧ Tr w I (x :: δ) w I δ := by
  have hsub : (blks δ).Sublist (blks (x :: δ)) := (List.sublist_cons_self x δ).filterMap _
  exact ⟨⟨h.imm, fun y hy => h.ents y (List.mem_cons_of_mem _ hy), h.nodup.sublist hsub, fun b hb => h.apart b (hsub.subset hb)⟩,
    ⟨rfl, rfl, rfl, Nat.le_refl _, fun _ _ _ => rfl, Imm.le_refl _, fun b o h1 h2 => (by rw [h1] at h2; cases h2), fun b hb => .inl (hsub.subset hb)⟩⟩

theorem Sat.freeze {w : World} {I : Imm} {x : Ent} {δ : List Ent} (h : Sat w I (x :: δ)) {b : Nat} {o : Obj} (hb : x.blk = some b) (ho : w.heap[b]? = some o) :
    Sat w (I.ins b o) δ ∧ Tr w I (x :: δ) w (I.ins b o) δ ∧ I.le (I.ins b o) := by
  have hn : I b = none := h.apart b (by simp [blks, hb])
  have hsub : (blks δ).Sublist (blks (x :: δ)) := (List.sublist_cons_self x δ).filterMap _
  have hnd : b ∉ blks δ := by
    have := h.nodup
    simp only [blks, List.filterMap_cons, hb, List.nodup_cons] at this
    exact this.1
  refine ⟨⟨fun c p hp => ?_, fun y hy => h.ents y (List.mem_cons_of_mem _ hy), h.nodup.sublist hsub, fun c hc => ?_⟩,
    ⟨rfl, rfl, rfl, Nat.le_refl _, fun _ _ _ => rfl, Imm.le_ins hn, fun c p h1 h2 => ?_, fun c hc => .inl (hsub.subset hc)⟩, Imm.le_ins hn⟩
  · unfold Imm.ins at hp
    by_cases e : c = b
    · subst e; simp at hp; subst hp; exact ho
    · simp [e] at hp; exact h.imm c p hp
  · have hcb : c ≠ b := fun e => hnd (e ▸ hc)
    simp [Imm.ins, hcb, h.apart c (hsub.subset hc)]
  · unfold Imm.ins at h1
    by_cases e : c = b
    · subst e; exact .inl (by simp [blks, hb])
    · simp [e] at h1; rw [h1] at h2; cases h2
end Go.Proofs.Ythbcdffldcdfoaa.Lg
