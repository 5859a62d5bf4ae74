/- Own texts, one behind the other: rules of a small program logic, walks through the program's functions, plain facts. No condition. -/
import Derived.RangeFuncLeaves
import Derived.RangeFuncCalls
import Derived.TacticsIn
import Derived.OrdersIn
import Derived.Maps.AppendAt
import Derived.Laws.MakeOwn
import Derived.Laws.OwnMore
import Derived.Laws.Rows
import Derived.Laws.Wrap64
import Derived.WalkKit
import Derived.KernelRfl
import Derived.Maps.RangeRun
import Derived.MapKept
/- A small program logic over the kit's walk: an immutable part of the heap, owned entries, slots by name. Plain definitions and theorems; no condition. -/
namespace Go.Proofs.Ytdbadicpbmndbaa.Lg
open Go Go.RowKit

/-! ### slots -/
abbrev Env := List (Nat × Value)
def look (d : Nat) : Env → Option Value
  | [] => none
  | (e, v) :: r => bif Nat.beq e d then some v else look d r

def marksOf (ds : List Nat) : List Deferred := ds.map fun r => { target := .collected r, args := #[] }

structure EnvOK (n : Nat) (σ : Env) (ds : List Nat) (a : Act) : Prop where
  size : a.tmps.size = n
  val : ∀ d v, look d σ = some v → a.tmps[d]? = some v
  defers : a.defers = marksOf ds

def evS (σ : Env) : Operand → Option Value
  | .tmp t => look t σ
  | .const v => some v
  | .global g => some (.pointer (some ⟨g, 0, none⟩))
  | .func f => some (.func (.func f) #[] #[])

def evL (σ : Env) : List Operand → Option (List Value)
  | [] => some []
  | x :: r => match evS σ x, evL σ r with
    | some v, some vs => some (v :: vs)
    | _, _ => none

theorem EnvOK.ev {n : Nat} {σ : Env} {ds : List Nat} {a : Act} (h : EnvOK n σ ds a) {x : Operand} {v : Value} (hx : evS σ x = some v) : a.eval x = v := by
  cases x with
  | tmp t =>
    have := h.val t v hx
    simp [Act.eval, this]
  | const u => simpa [evS, Act.eval] using hx
  | global g => simpa [evS, Act.eval] using hx
  | func f => simpa [evS, Act.eval] using hx

theorem EnvOK.evs {n : Nat} {σ : Env} {ds : List Nat} {a : Act} (h : EnvOK n σ ds a) : ∀ {xs : List Operand} {vs : List Value}, evL σ xs = some vs → xs.map a.eval = vs
  | [], vs, hx => by simp [evL] at hx; simp [← hx]
  | x :: r, vs, hx => by
    simp only [evL] at hx
    cases h1 : evS σ x with
    | none => simp [h1] at hx
    | some v =>
      cases h2 : evL σ r with
      | none => simp [h1, h2] at hx
      | some us =>
        simp [h1, h2] at hx
        subst hx
        simp [h.ev h1, h.evs h2]

theorem look_cons (d e : Nat) (v : Value) (σ : Env) : look d ((e, v) :: σ) = if e = d then some v else look d σ := by
  simp only [look]
  by_cases h : e = d
  · simp [h]
  · have : Nat.beq e d = false := by
      cases hb : Nat.beq e d with
      | false => rfl
      | true => exact absurd (Nat.eq_of_beq_eq_true hb) h
    simp [this, h]

theorem EnvOK.put {n : Nat} {σ : Env} {ds : List Nat} {a : Act} (h : EnvOK n σ ds a) {d : Nat} (hd : Nat.blt d n = true) (v : Value) : EnvOK n ((d, v) :: σ) ds (a.put (some d) v) := by
  have hd' : d < n := by simpa [Nat.blt_eq] using hd
  refine ⟨by simp [Act.put, h.size], fun e u he => ?_, by simpa [Act.put] using h.defers⟩
  rw [look_cons] at he
  by_cases hed : d = e
  · subst hed
    simp at he
    subst he
    simp [Act.put, h.size, hd']
  · simp [hed] at he
    simp [Act.put, Array.getElem?_setIfInBounds_ne hed, h.val e u he]

theorem EnvOK.put' {n : Nat} {σ : Env} {ds : List Nat} {a : Act} (h : EnvOK n σ ds a) {o : Option Nat} (ho : o = none) (v : Value) : EnvOK n σ ds (a.put o v) := by
  subst ho; exact h

/-- Fewer slots. -/
def SubEnv : Env → Env → Prop
  | [], _ => True
  | (d, v) :: r, σ => look d σ = some v ∧ SubEnv r σ

theorem SubEnv.ok : ∀ {σ' σ : Env}, SubEnv σ' σ → ∀ d v, look d σ' = some v → look d σ = some v
  | [], _, _, d, v, h => by simp [look] at h
  | (e, u) :: r, σ, hs, d, v, h => by
    rw [look_cons] at h
    by_cases hed : e = d
    · subst hed; simp at h; subst h; exact hs.1
    · simp [hed] at h; exact SubEnv.ok hs.2 d v h

theorem EnvOK.sub {n : Nat} {σ σ' : Env} {ds : List Nat} {a : Act} (h : EnvOK n σ ds a) (hs : SubEnv σ' σ) : EnvOK n σ' ds a :=
  ⟨h.size, fun d v hd => h.val d v (hs.ok d v hd), h.defers⟩

/-! ### the heap: an immutable part, owned entries -/
abbrev Imm := Nat → Option Obj
def Imm.le (I J : Imm) : Prop := ∀ b o, I b = some o → J b = some o
def Imm.cell (I : Imm) (a : Addr) : Option Value :=
  match I a.block with
  | some (.cells c _ _) => if a.spot.isSome then none else c[a.off]?
  | _ => none
def Imm.cellO (I : Imm) : Option Addr → Option Value
  | some a => I.cell a
  | none => none
def Imm.ins (I : Imm) (b : Nat) (o : Obj) : Imm := fun k => if k = b then some o else I k
theorem Imm.le_refl (I : Imm) : I.le I := fun _ _ h => h
theorem Imm.le_trans {I J K : Imm} (h : I.le J) (k : J.le K) : I.le K := fun b o hb => k b o (h b o hb)
theorem Imm.le_cell {I J : Imm} (h : I.le J) {a : Addr} {v : Value} (hc : I.cell a = some v) : J.cell a = some v := by
  unfold Imm.cell at *
  cases hb : I a.block with
  | none => simp [hb] at hc
  | some o => rw [hb] at hc; rw [h _ _ hb]; exact hc
theorem Imm.le_cellO {I J : Imm} (h : I.le J) {a : Option Addr} {v : Value} (hc : I.cellO a = some v) : J.cellO a = some v := by
  cases a with
  | none => simp [Imm.cellO] at hc
  | some a => exact Imm.le_cell h hc
theorem Imm.le_ins {I : Imm} {b : Nat} {o : Obj} (h : I b = none) : I.le (I.ins b o) := fun k p hk => by
  unfold Imm.ins
  by_cases e : k = b
  · subst e; rw [h] at hk; cases hk
  · simp [e, hk]

/-- A map's entries, keys of whole numbers: in the order in which they came. -/
abbrev Mp := List (Int × Value)
structure MapIs (es : Array MapEntry) (clock : Nat) (xs : Mp) : Prop where
  kv : es.toList.map (fun e => (e.key, e.val)) = xs.map (fun p => (Value.int .i64 p.1, p.2))
  keys : (xs.map (·.1)).Nodup
  born : (es.toList.map (·.born)).Nodup
  old : ∀ e ∈ es.toList, e.born < clock

inductive Ent where
  | box (b : Nat) (e : TypeId) (cs : List Value)
  | row (v : Value) (e : TypeId) (size n : Nat) (xs : List Value)
  | obj (b : Nat) (o : Obj)
  | map (b : Nat) (xs : Mp)

def Ent.blk : Ent → Option Nat
  | .box b _ _ => some b
  | .row v _ _ _ _ => v.ownBlock
  | .obj b _ => some b
  | .map b _ => some b

def Ent.holds (w : World) : Ent → Prop
  | .box b e cs => w.heap[b]? = some (.cells cs.toArray e (0, 0))
  | .row v e size n xs => w.ownsRow 0 e size v n xs
  | .obj b o => w.heap[b]? = some o
  | .map b xs => ∃ es clock, w.heap[b]? = some (.map es clock) ∧ MapIs es clock xs

abbrev blks (δ : List Ent) : List Nat := δ.filterMap Ent.blk

structure Sat (w : World) (I : Imm) (δ : List Ent) : Prop where
  imm : ∀ b o, I b = some o → w.heap[b]? = some o
  ents : ∀ x ∈ δ, x.holds w
  nodup : (blks δ).Nodup
  apart : ∀ b ∈ blks δ, I b = none

structure Tr (w : World) (I : Imm) (δ : List Ent) (w' : World) (I' : Imm) (δ' : List Ent) : Prop where
  os : w'.os = w.os
  tape : w'.tape = w.tape
  output : w'.output = w.output
  size : w.heap.size ≤ w'.heap.size
  same : ∀ b, b < w.heap.size → b ∉ blks δ → w'.heap[b]? = w.heap[b]?
  imm : I.le I'
  freshI : ∀ b o, I' b = some o → I b = none → b ∈ blks δ ∨ w.heap.size ≤ b
  freshD : ∀ b ∈ blks δ', b ∈ blks δ ∨ w.heap.size ≤ b

theorem Tr.refl (w : World) (I : Imm) (δ : List Ent) : Tr w I δ w I δ :=
  ⟨rfl, rfl, rfl, Nat.le_refl _, fun _ _ _ => rfl, Imm.le_refl _, fun b o h1 h2 => (by rw [h1] at h2; cases h2), fun _ h => .inl h⟩

theorem Tr.trans {w w1 w2 : World} {I I1 I2 : Imm} {δ δ1 δ2 : List Ent} (h : Tr w I δ w1 I1 δ1) (k : Tr w1 I1 δ1 w2 I2 δ2) : Tr w I δ w2 I2 δ2 where
  os := k.os.trans h.os
  tape := k.tape.trans h.tape
  output := k.output.trans h.output
  size := Nat.le_trans h.size k.size
  same := fun b hb hn => (k.same b (Nat.lt_of_lt_of_le hb h.size) (fun hm => by
    rcases h.freshD b hm with h1 | h1
    · exact hn h1
    · omega)).trans (h.same b hb hn)
  imm := Imm.le_trans h.imm k.imm
  freshI := fun b o h1 h2 => by
    cases h3 : I1 b with
    | some p => exact h.freshI b p h3 h2
    | none =>
      rcases k.freshI b o h1 h3 with h4 | h4
      · exact h.freshD b h4
      · exact .inr (Nat.le_trans h.size h4)
  freshD := fun b hb => by
    rcases k.freshD b hb with h4 | h4
    · exact h.freshD b h4
    · exact .inr (Nat.le_trans h.size h4)

theorem Ent.lt {w : World} {x : Ent} (h : x.holds w) {b : Nat} (hb : x.blk = some b) : b < w.heap.size := by
  cases x with
  | box c e cs => simp [Ent.blk] at hb; subst hb; exact (Array.getElem?_eq_some_iff.1 h).1
  | obj c o => simp [Ent.blk] at hb; subst hb; exact (Array.getElem?_eq_some_iff.1 h).1
  | map c xs => obtain ⟨es, clock, h, _⟩ := h; simp [Ent.blk] at hb; subst hb; exact (Array.getElem?_eq_some_iff.1 h).1
  | row v e s n xs => exact (World.ownsRow.lt h b hb).2

theorem Sat.lt {w : World} {I : Imm} {δ : List Ent} (h : Sat w I δ) {b : Nat} (hb : b ∈ blks δ) : b < w.heap.size := by
  obtain ⟨x, hx, hxb⟩ := List.mem_filterMap.1 hb
  exact Ent.lt (h.ents x hx) hxb
theorem Sat.ltI {w : World} {I : Imm} {δ : List Ent} (h : Sat w I δ) {b : Nat} {o : Obj} (hb : I b = some o) : b < w.heap.size :=
  (Array.getElem?_eq_some_iff.1 (h.imm b o hb)).1

theorem Sat.cell {w : World} {I : Imm} {δ : List Ent} (h : Sat w I δ) {a : Addr} {v : Value} (hc : I.cell a = some v) : w.cell? a = some v := by
  unfold Imm.cell at hc
  unfold World.cell?
  cases hb : I a.block with
  | none => simp [hb] at hc
  | some o => rw [hb] at hc; rw [h.imm _ _ hb]; exact hc

/-- An entry is kept by a change elsewhere. -/
theorem Ent.kept {w w' : World} {x : Ent} (h : x.holds w) (hs : ∀ b, x.blk = some b → w'.heap[b]? = w.heap[b]?) : x.holds w' := by
  cases x with
  | box c e cs => exact (hs c rfl).trans h
  | obj c o => exact (hs c rfl).trans h
  | map c xs => obtain ⟨es, clock, h, h2⟩ := h; exact ⟨es, clock, (hs c rfl).trans h, h2⟩
  | row v e s n xs =>
    obtain ⟨h1, h2⟩ := h
    refine ⟨h1, ?_⟩
    rcases h2 with h2 | ⟨g, cap, cur, rfl, h3, h4, h5⟩
    · exact .inl h2
    · exact .inr ⟨g, cap, cur, rfl, h3, (hs g rfl).trans h4, h5⟩

theorem Sat.perm {w : World} {I : Imm} {δ δ' : List Ent} (h : Sat w I δ) (hp : δ.Perm δ') : Sat w I δ' :=
  ⟨h.imm, fun x hx => h.ents x (hp.mem_iff.2 hx), (hp.filterMap _).nodup_iff.1 h.nodup, fun b hb => h.apart b ((hp.filterMap _).mem_iff.2 hb)⟩
theorem Tr.permL {w w' : World} {I I' : Imm} {δ δ1 δ' : List Ent} (h : Tr w I δ w' I' δ') (hp : δ.Perm δ1) : Tr w I δ1 w' I' δ' :=
  have hm : ∀ b, b ∈ blks δ ↔ b ∈ blks δ1 := fun _ => (hp.filterMap _).mem_iff
  ⟨h.os, h.tape, h.output, h.size, fun b hb hn => h.same b hb (fun k => hn ((hm b).1 k)), h.imm, fun b o h1 h2 => (h.freshI b o h1 h2).imp (hm b).1 id, fun b hb => (h.freshD b hb).imp (hm b).1 id⟩
theorem Tr.permR {w w' : World} {I I' : Imm} {δ δ' δ1 : List Ent} (h : Tr w I δ w' I' δ') (hp : δ'.Perm δ1) : Tr w I δ w' I' δ1 :=
  ⟨h.os, h.tape, h.output, h.size, h.same, h.imm, h.freshI, fun b hb => h.freshD b ((hp.filterMap _).mem_iff.2 hb)⟩

/-- What a part does leaves the rest. -/
theorem frame {w w' : World} {I I' : Imm} {δc δc' δr : List Ent} (h : Sat w I (δc ++ δr)) (h' : Sat w' I' δc') (t : Tr w I δc w' I' δc') :
    Sat w' I' (δc' ++ δr) ∧ Tr w I (δc ++ δr) w' I' (δc' ++ δr) := by
  have hb : blks (δc ++ δr) = blks δc ++ blks δr := List.filterMap_append
  have hb' : blks (δc' ++ δr) = blks δc' ++ blks δr := List.filterMap_append
  have hnd := h.nodup
  rw [hb, List.nodup_append] at hnd
  have ltr : ∀ b ∈ blks δr, b < w.heap.size := fun b hm => h.lt (by rw [hb]; exact List.mem_append_right _ hm)
  have keepr : ∀ b ∈ blks δr, w'.heap[b]? = w.heap[b]? := fun b hm => t.same b (ltr b hm) (fun hc => hnd.2.2 b hc b hm rfl)
  refine ⟨⟨h'.imm, ?_, ?_, ?_⟩, ⟨t.os, t.tape, t.output, t.size, ?_, t.imm, ?_, ?_⟩⟩
  · intro x hx
    rcases List.mem_append.1 hx with hx | hx
    · exact h'.ents x hx
    · exact Ent.kept (h.ents x (List.mem_append_right _ hx)) fun b hxb => keepr b (List.mem_filterMap.2 ⟨x, hx, hxb⟩)
  · rw [hb', List.nodup_append]
    refine ⟨h'.nodup, hnd.2.1, fun b hb1 c hc e => ?_⟩
    subst e
    rcases t.freshD b hb1 with h1 | h1
    · exact hnd.2.2 b h1 b hc rfl
    · have := ltr b hc; omega
  · intro b hm
    rw [hb'] at hm
    rcases List.mem_append.1 hm with hm | hm
    · exact h'.apart b hm
    · cases hI : I' b with
      | none => rfl
      | some o =>
        have hn : I b = none := h.apart b (by rw [hb]; exact List.mem_append_right _ hm)
        rcases t.freshI b o hI hn with h1 | h1
        · exact absurd rfl (hnd.2.2 b h1 b hm)
        · have := ltr b hm; omega
  · intro b hlt hn
    exact t.same b hlt fun hm => hn (by rw [hb]; exact List.mem_append_left _ hm)
  · intro b o h1 h2
    rcases t.freshI b o h1 h2 with h3 | h3
    · exact .inl (by rw [hb]; exact List.mem_append_left _ h3)
    · exact .inr h3
  · intro b hm
    rw [hb'] at hm
    rcases List.mem_append.1 hm with hm | hm
    · exact (t.freshD b hm).imp (fun h3 => by rw [hb]; exact List.mem_append_left _ h3) id
    · exact .inl (by rw [hb]; exact List.mem_append_right _ hm)

/-- A new block. -/
theorem Sat.alloc {w : World} {I : Imm} {δ : List Ent} (h : Sat w I δ) (x : Ent) (o : Obj) (hb : x.blk = some w.heap.size) (hx : x.holds (w.alloc o)) :
    Sat (w.alloc o) I (x :: δ) ∧ Tr w I δ (w.alloc o) I (x :: δ) := by
  have hold : ∀ b, b < w.heap.size → (w.alloc o).heap[b]? = w.heap[b]? := fun b hb => heap_alloc_old w o b hb
  have hbl : blks (x :: δ) = w.heap.size :: blks δ := by simp [blks, hb]
  refine ⟨⟨fun b p hp => (hold b (h.ltI hp)).trans (h.imm b p hp), ?_, ?_, ?_⟩, ⟨rfl, rfl, rfl, by simp, fun b hlt _ => hold b hlt, Imm.le_refl _, fun b p h1 h2 => (by rw [h1] at h2; cases h2), ?_⟩⟩
  · intro y hy
    rcases List.mem_cons.1 hy with rfl | hy
    · exact hx
    · exact Ent.kept (h.ents y hy) fun b hyb => hold b (h.lt (List.mem_filterMap.2 ⟨y, hy, hyb⟩))
  · rw [hbl, List.nodup_cons]
    exact ⟨fun hm => by have := h.lt hm; omega, h.nodup⟩
  · intro b hm
    rw [hbl] at hm
    rcases List.mem_cons.1 hm with rfl | hm
    · cases hI : I w.heap.size with
      | none => rfl
      | some p => have := h.ltI hI; omega
    · exact h.apart b hm
  · intro b hm
    rw [hbl] at hm
    rcases List.mem_cons.1 hm with rfl | hm
    · exact .inr (Nat.le_refl _)
    · exact .inl hm

theorem Sat.drew {w : World} {I : Imm} {δ : List Ent} (h : Sat w I δ) : Sat { w with drawn := w.drawn + 1 } I δ ∧ Tr w I δ { w with drawn := w.drawn + 1 } I δ :=
  ⟨⟨h.imm, fun x hx => Ent.kept (h.ents x hx) fun _ _ => rfl, h.nodup, h.apart⟩, ⟨rfl, rfl, rfl, Nat.le_refl _, fun _ _ _ => rfl, Imm.le_refl _, fun b o h1 h2 => (by rw [h1] at h2; cases h2), fun _ h => .inl h⟩⟩

/-- One entry takes another's place. -/
inductive Swap : List Ent → Ent → List Ent → Ent → Prop
  | here {x x' : Ent} {r : List Ent} : Swap (x :: r) x (x' :: r) x'
  | there {x x' y : Ent} {r r' : List Ent} (h : Swap r x r' x') : Swap (y :: r) x (y :: r') x'

theorem Swap.split {δ δ' : List Ent} {x x' : Ent} (h : Swap δ x δ' x') : ∃ l r, δ = l ++ x :: r ∧ δ' = l ++ x' :: r := by
  induction h with
  | here => exact ⟨[], _, rfl, rfl⟩
  | there _ ih => obtain ⟨l, r, rfl, rfl⟩ := ih; exact ⟨_ :: l, r, rfl, rfl⟩

theorem Sat.swap {w w' : World} {I : Imm} {δ δ' : List Ent} {x x' : Ent} (h : Sat w I δ) (hs : Swap δ x δ' x')
    (hos : w'.os = w.os) (htape : w'.tape = w.tape) (hout : w'.output = w.output) (hsz : w.heap.size ≤ w'.heap.size)
    (hsame : ∀ b, b < w.heap.size → x.blk ≠ some b → w'.heap[b]? = w.heap[b]?) (hx : x'.holds w')
    (hb : ∀ b, x'.blk = some b → x.blk = some b ∨ w.heap.size ≤ b) : Sat w' I δ' ∧ Tr w I δ w' I δ' := by
  obtain ⟨l, r, rfl, rfl⟩ := hs.split
  have p1 : (l ++ x :: r).Perm ([x] ++ (l ++ r)) := List.perm_middle
  have p2 : (l ++ x' :: r).Perm ([x'] ++ (l ++ r)) := List.perm_middle
  have h1 := h.perm p1
  have hmem : x ∈ l ++ x :: r := by simp
  have hx' : Sat w' I [x'] := by
    refine ⟨fun b o ho => ?_, fun y hy => by simp at hy; subst hy; exact hx, ?_, ?_⟩
    · rw [hsame b (h.ltI ho) (fun e => ?_)]
      · exact h.imm b o ho
      · have : b ∈ blks (l ++ x :: r) := List.mem_filterMap.2 ⟨x, hmem, e⟩
        rw [h.apart b this] at ho; cases ho
    · cases hb' : x'.blk <;> simp [blks, hb']
    · intro b hm
      have hxb : x'.blk = some b := by simpa [blks] using hm
      rcases hb b hxb with h2 | h2
      · exact h.apart b (List.mem_filterMap.2 ⟨x, hmem, h2⟩)
      · cases hI : I b with
        | none => rfl
        | some o => have := h.ltI hI; omega
  have t : Tr w I [x] w' I [x'] := by
    refine ⟨hos, htape, hout, hsz, fun b hlt hn => hsame b hlt (fun e => hn (by simp [blks, e])), Imm.le_refl _, fun b o h1 h2 => (by rw [h1] at h2; cases h2), fun b hm => ?_⟩
    have hxb : x'.blk = some b := by simpa [blks] using hm
    rcases hb b hxb with h2 | h2
    · exact .inl (by simp [blks, h2])
    · exact .inr h2
  obtain ⟨f1, f2⟩ := frame (δr := l ++ r) h1 hx' t
  exact ⟨f1.perm p2.symm, (f2.permL p1.symm).permR p2.symm⟩

/-- An entry is let go, or becomes immutable. -/
inductive Del : List Ent → Ent → List Ent → Prop
  | here {x : Ent} {r : List Ent} : Del (x :: r) x r
  | there {x y : Ent} {r r' : List Ent} (h : Del r x r') : Del (y :: r) x (y :: r')
theorem Del.perm {δ δ' : List Ent} {x : Ent} (h : Del δ x δ') : δ.Perm (x :: δ') := by
  induction h with
  | here => exact .refl _
  | there _ ih => exact (List.Perm.cons _ ih).trans (List.Perm.swap _ _ _)

theorem Sat.drop {w : World} {I : Imm} {x : Ent} {δ : List Ent} (h : Sat w I (x :: δ)) : Sat w I δ ∧ Tr w I (x :: δ) w I δ := by
  have hsub : (blks δ).Sublist (blks (x :: δ)) := (List.sublist_cons_self x δ).filterMap _
  exact ⟨⟨h.imm, fun y hy => h.ents y (List.mem_cons_of_mem _ hy), h.nodup.sublist hsub, fun b hb => h.apart b (hsub.subset hb)⟩,
    ⟨rfl, rfl, rfl, Nat.le_refl _, fun _ _ _ => rfl, Imm.le_refl _, fun b o h1 h2 => (by rw [h1] at h2; cases h2), fun b hb => .inl (hsub.subset hb)⟩⟩

theorem Sat.freeze {w : World} {I : Imm} {x : Ent} {δ : List Ent} (h : Sat w I (x :: δ)) {b : Nat} {o : Obj} (hb : x.blk = some b) (ho : w.heap[b]? = some o) :
    Sat w (I.ins b o) δ ∧ Tr w I (x :: δ) w (I.ins b o) δ ∧ I.le (I.ins b o) := by
  have hn : I b = none := h.apart b (by simp [blks, hb])
  have hsub : (blks δ).Sublist (blks (x :: δ)) := (List.sublist_cons_self x δ).filterMap _
  have hnd : b ∉ blks δ := by
    have := h.nodup
    simp only [blks, List.filterMap_cons, hb, List.nodup_cons] at this
    exact this.1
  refine ⟨⟨fun c p hp => ?_, fun y hy => h.ents y (List.mem_cons_of_mem _ hy), h.nodup.sublist hsub, fun c hc => ?_⟩,
    ⟨rfl, rfl, rfl, Nat.le_refl _, fun _ _ _ => rfl, Imm.le_ins hn, fun c p h1 h2 => ?_, fun c hc => .inl (hsub.subset hc)⟩, Imm.le_ins hn⟩
  · unfold Imm.ins at hp
    by_cases e : c = b
    · subst e; simp at hp; subst hp; exact ho
    · simp [e] at hp; exact h.imm c p hp
  · have hcb : c ≠ b := fun e => hnd (e ▸ hc)
    simp [Imm.ins, hcb, h.apart c (hsub.subset hc)]
  · unfold Imm.ins at h1
    by_cases e : c = b
    · subst e; exact .inl (by simp [blks, hb])
    · simp [e] at h1; rw [h1] at h2; cases h2
end Go.Proofs.Ytdbadicpbmndbaa.Lg
/- The judgements of the logic: code, operations, contracts of functions and of function values. No condition. -/
namespace Go.Proofs.Ytdbadicpbmndbaa.Lg
open Go Go.RowKit

structure Ctx where
  P : Program
  r : Option Nat
  n : Nat
  w0 : World
  I0 : Imm
  δ0 : List Ent

def Ctx.F (C : Ctx) : Fence := { Fence.wide with round := C.r }
theorem Ctx.fn (C : Ctx) (f : FuncId) : C.F.fn f := trivial

def CodeJ (C : Ctx) (c : Code) (Q : Exit → Act → World → Prop) (σ : Env) (ds : List Nat) (I : Imm) (δ : List Ent) : Prop :=
  ∀ a w, EnvOK C.n σ ds a → Sat w I δ → Tr C.w0 C.I0 C.δ0 w I δ → c.wpIn C.F 0 C.P Q a w
def OpsJ (C : Ctx) (ops : Array Oper) (Q : Exit → Act → World → Prop) (rest : List Oper) (σ : Env) (ds : List Nat) (I : Imm) (δ : List Ent) : Prop :=
  ∀ a w, EnvOK C.n σ ds a → Sat w I δ → Tr C.w0 C.I0 C.δ0 w I δ → wpListIn C.F 0 C.P ops Q rest a w
def PostJ (C : Ctx) (Q : Exit → Act → World → Prop) (e : Exit) (σ : Env) (ds : List Nat) (I : Imm) (δ : List Ent) : Prop :=
  ∀ a w, EnvOK C.n σ ds a → Sat w I δ → Tr C.w0 C.I0 C.δ0 w I δ → Q e a w

variable {C : Ctx} {Q : Exit → Act → World → Prop} {σ : Env} {ds : List Nat} {I : Imm} {δ : List Ent} {ops : Array Oper} {rest : List Oper}

theorem code_region {id : Nat} {l : List Oper} (h : OpsJ C l.toArray Q l σ ds I δ) : CodeJ C (.region id l.toArray false) Q σ ds I δ :=
  fun a w he hs ht => wpIn_region_lit (h a w he hs ht)
theorem code_seq {x y : Code} (h : CodeJ C x (Exit.then (y.wpIn C.F 0 C.P Q) Q) σ ds I δ) : CodeJ C (.seq x y) Q σ ds I δ :=
  fun a w he hs ht => wpIn_seq (h a w he hs ht)
theorem code_block {id : Nat} {c : Code} (h : CodeJ C c (Exit.inBlock id Q) σ ds I δ) : CodeJ C (.block id c) Q σ ds I δ :=
  fun a w he hs ht => wpIn_block (h a w he hs ht)
theorem code_skip (h : PostJ C Q .normal σ ds I δ) : CodeJ C .skip Q σ ds I δ := fun a w he hs ht => wpIn_skip (h a w he hs ht)
theorem code_ret (h : PostJ C Q .ret σ ds I δ) : CodeJ C .ret Q σ ds I δ := fun a w he hs ht => wpIn_ret (h a w he hs ht)
theorem code_exit {id : Nat} (h : PostJ C Q (.exit id) σ ds I δ) : CodeJ C (.exit id) Q σ ds I δ := fun a w he hs ht => wpIn_exit (h a w he hs ht)
theorem code_cond {x y : Code} {o : Operand} {t : Bool} (hc : evS σ o = some (.bool t)) (ht : t = true → CodeJ C x Q σ ds I δ) (hf : t = false → CodeJ C y Q σ ds I δ) :
    CodeJ C (.cond o x y) Q σ ds I δ :=
  fun a w he hs htr => wpIn_cond_split (he.ev hc) (fun h => ht h a w he hs htr) (fun h => hf h a w he hs htr)
theorem code_cond_t {x y : Code} {o : Operand} (hc : evS σ o = some (.bool true)) (ht : CodeJ C x Q σ ds I δ) : CodeJ C (.cond o x y) Q σ ds I δ :=
  fun a w he hs htr => wpIn_cond_true (he.ev hc) (ht a w he hs htr)
theorem code_cond_f {x y : Code} {o : Operand} (hc : evS σ o = some (.bool false)) (ht : CodeJ C y Q σ ds I δ) : CodeJ C (.cond o x y) Q σ ds I δ :=
  fun a w he hs htr => wpIn_cond_false (he.ev hc) (ht a w he hs htr)

theorem ops_nil (h : PostJ C Q .normal σ ds I δ) : OpsJ C ops Q [] σ ds I δ := fun a w he hs ht => wpListIn_nil (h a w he hs ht)
/-- What follows in sequence. -/
theorem post_next {y : Code} (h : CodeJ C y Q σ ds I δ) : PostJ C (Exit.then (y.wpIn C.F 0 C.P Q) Q) .normal σ ds I δ := h
theorem post_out {id : Nat} (h : PostJ C Q .normal σ ds I δ) : PostJ C (Exit.inBlock id Q) .normal σ ds I δ := h
theorem post_exit {id : Nat} (h : PostJ C Q .normal σ ds I δ) : PostJ C (Exit.inBlock id Q) (.exit id) σ ds I δ :=
  fun a w he hs ht => by simp only [Exit.inBlock, if_true]; exact h a w he hs ht
theorem post_ret_then {K : Act → World → Prop} (h : PostJ C Q .ret σ ds I δ) : PostJ C (Exit.then K Q) .ret σ ds I δ := h
theorem post_ret_block {id : Nat} (h : PostJ C Q .ret σ ds I δ) : PostJ C (Exit.inBlock id Q) .ret σ ds I δ := h
theorem post_exit_then {K : Act → World → Prop} {id : Nat} (h : PostJ C Q (.exit id) σ ds I δ) : PostJ C (Exit.then K Q) (.exit id) σ ds I δ := h

/-! ### weaker states -/
theorem CodeJ.sub {c : Code} {σ' : Env} (h : CodeJ C c Q σ' ds I δ) (hs : SubEnv σ' σ) : CodeJ C c Q σ ds I δ := fun a w he hsat ht => h a w (he.sub hs) hsat ht
theorem PostJ.sub {e : Exit} {σ' : Env} (h : PostJ C Q e σ' ds I δ) (hs : SubEnv σ' σ) : PostJ C Q e σ ds I δ := fun a w he hsat ht => h a w (he.sub hs) hsat ht
theorem OpsJ.sub {σ' : Env} (h : OpsJ C ops Q rest σ' ds I δ) (hs : SubEnv σ' σ) : OpsJ C ops Q rest σ ds I δ := fun a w he hsat ht => h a w (he.sub hs) hsat ht

/-- A change of the view of the heap that costs no step. -/
def View (I : Imm) (δ : List Ent) (I' : Imm) (δ' : List Ent) : Prop := ∀ w, Sat w I δ → Sat w I' δ' ∧ Tr w I δ w I' δ'
theorem OpsJ.view {I' : Imm} {δ' : List Ent} (hv : View I δ I' δ') (h : OpsJ C ops Q rest σ ds I' δ') : OpsJ C ops Q rest σ ds I δ :=
  fun a w he hs ht => h a w he (hv w hs).1 (ht.trans (hv w hs).2)
theorem CodeJ.view {c : Code} {I' : Imm} {δ' : List Ent} (hv : View I δ I' δ') (h : CodeJ C c Q σ ds I' δ') : CodeJ C c Q σ ds I δ :=
  fun a w he hs ht => h a w he (hv w hs).1 (ht.trans (hv w hs).2)
theorem PostJ.view {e : Exit} {I' : Imm} {δ' : List Ent} (hv : View I δ I' δ') (h : PostJ C Q e σ ds I' δ') : PostJ C Q e σ ds I δ :=
  fun a w he hs ht => h a w he (hv w hs).1 (ht.trans (hv w hs).2)
theorem View.perm {δ' : List Ent} (hp : δ.Perm δ') : View I δ I δ' := fun w h => ⟨h.perm hp, (Tr.refl w I δ).permR hp⟩
theorem View.drop {x : Ent} {δ' : List Ent} (hd : Del δ x δ') : View I δ I δ' := fun w h =>
  let h1 := h.perm hd.perm
  ⟨h1.drop.1, ((Tr.refl w I δ).permR hd.perm).trans h1.drop.2⟩
theorem View.trans {I1 I2 : Imm} {δ1 δ2 : List Ent} (h : View I δ I1 δ1) (k : View I1 δ1 I2 δ2) : View I δ I2 δ2 := fun w hs =>
  ⟨(k w (h w hs).1).1, (h w hs).2.trans (k w (h w hs).1).2⟩
theorem Sat.sub {w : World} {δ' : List Ent} (h : Sat w I δ) (hs : δ'.Sublist δ) : Sat w I δ' ∧ Tr w I δ w I δ' :=
  have hb : (blks δ').Sublist (blks δ) := hs.filterMap _
  ⟨⟨h.imm, fun x hx => h.ents x (hs.subset hx), h.nodup.sublist hb, fun b hm => h.apart b (hb.subset hm)⟩,
    ⟨rfl, rfl, rfl, Nat.le_refl _, fun _ _ _ => rfl, Imm.le_refl _, fun b o h1 h2 => (by rw [h1] at h2; cases h2), fun b hm => .inl (hb.subset hm)⟩⟩
theorem View.sub {δ' : List Ent} (hs : δ'.Sublist δ) : View I δ I δ' := fun _ h => h.sub hs
theorem View.nil : View I δ I [] := View.sub (List.nil_sublist _)
/-- An immutable row of cells at a slice's address. -/
def Cells (I : Imm) (ad : Option Addr) (xs : List Value) : Prop := ∀ j v, xs[j]? = some v → I.cellO (ad.map (·.add j)) = some v
theorem Cells.mono {J : Imm} {ad : Option Addr} {xs : List Value} (h : Cells I ad xs) (hl : I.le J) : Cells J ad xs := fun j v hj => Imm.le_cellO hl (h j v hj)

/-- An owned row becomes immutable. -/
theorem OpsJ.freezeRow {v : Value} {e : TypeId} {size n : Nat} {xs : List Value} {δ' : List Ent} (hd : Del δ (.row v e size n xs) δ')
    (h : ∀ I' ad cap, I.le I' → v = .slice ad n cap → n ≤ cap → xs.length = n * size → Cells I' ad xs → OpsJ C ops Q rest σ ds I' δ') : OpsJ C ops Q rest σ ds I δ := by
  intro a w he hs ht
  have h1 := hs.perm hd.perm
  have t1 := ht.permR hd.perm
  obtain ⟨hl, hx⟩ : w.ownsRow 0 e size v n xs := h1.ents _ (List.mem_cons_self ..)
  rcases hx with ⟨rfl, rfl⟩ | ⟨g, cap, cur, rfl, _, hh, hnc, _, hcs, htk⟩
  · obtain ⟨s2, t2⟩ := h1.drop
    have hnil : xs = [] := List.eq_nil_of_length_eq_zero (by omega)
    subst hnil
    exact h I none 0 (Imm.le_refl _) rfl (Nat.le_refl _) hl (fun j v hj => by simp at hj) a w he s2 (t1.trans t2)
  · obtain ⟨s2, t2, hle⟩ := h1.freeze (b := g) rfl hh
    refine h (I.ins g _) (some ⟨g, 0, none⟩) cap hle rfl hnc hl (fun j v hj => ?_) a w he s2 (t1.trans t2)
    have hadd : (⟨g, 0, none⟩ : Addr).add j = ⟨g, j, none⟩ := by unfold Addr.add; split <;> simp_all
    have hjn : j < n * size := by rw [← hl]; exact (List.getElem?_eq_some_iff.1 hj).1
    rw [← htk] at hj
    rw [List.getElem?_take_of_lt hjn] at hj
    simp only [Option.map_some, Imm.cellO, Imm.cell, hadd, Imm.ins, if_true]
    simpa using hj

/-! ### contracts -/
def Ret (w0 : World) (I : Imm) (δ : List Ent) (R : Value → Imm → List Ent → Prop) : Ending → World → Prop := fun e w' =>
  ∃ v I' δ', e = .returned v ∧ Sat w' I' δ' ∧ Tr w0 I δ w' I' δ' ∧ R v I' δ'

def Does (P : Program) (f : FuncId) (args : List Value) (I : Imm) (δ : List Ent) (R : Value → Imm → List Ent → Prop) : Prop :=
  ∀ w, Sat w I δ → Calls P f args.toArray w (Ret w I δ R)

theorem Does.mono {P : Program} {f : FuncId} {args : List Value} {R R' : Value → Imm → List Ent → Prop} (h : Does P f args I δ R) (hr : ∀ v I' δ', I.le I' → R v I' δ' → R' v I' δ') : Does P f args I δ R' :=
  fun w hs => (h w hs).mono fun _ _ ⟨v, I', δ', h1, h2, h3, h4⟩ => ⟨v, I', δ', h1, h2, h3, hr _ _ _ h3.imm h4⟩

/-- A call of a function value: it comes to a function of the program, or to a round of a loop. -/
def FRun (P : Program) (fv : Value) (args : Array Value) (w : World) (R : Ending → World → Prop) : Prop :=
  ∃ d, (Deferred.ofValue fv args).run P w = .ok d w ∧
    ((∃ f ars, (invoke d.target d.args).run P w = .ok (.enter f ars) w ∧ Calls P f ars w R) ∨
     (∃ l f tmps ars body, (invoke d.target d.args).run P w = .ok (.round l f tmps ars body) w ∧ RoundIn Fence.wide 0 P l f tmps ars body w R))

def FDoes (P : Program) (fv : Value) (args : List Value) (I : Imm) (δ : List Ent) (R : Value → Imm → List Ent → Prop) : Prop :=
  ∀ w, Sat w I δ → FRun P fv args.toArray w (Ret w I δ R)

theorem FDoes.mono {P : Program} {fv : Value} {args : List Value} {R R' : Value → Imm → List Ent → Prop} (h : FDoes P fv args I δ R) (hr : ∀ v I' δ', I.le I' → R v I' δ' → R' v I' δ') : FDoes P fv args I δ R' := by
  intro w hs
  have hm : ∀ e w', Ret w I δ R e w' → Ret w I δ R' e w' := fun _ _ ⟨v, I', δ', h1, h2, h3, h4⟩ => ⟨v, I', δ', h1, h2, h3, hr _ _ _ h3.imm h4⟩
  obtain ⟨d, hd, h⟩ := h w hs
  refine ⟨d, hd, ?_⟩
  rcases h with ⟨f, ars, h1, h2⟩ | ⟨l, f, tmps, ars, body, h1, h2⟩
  · exact .inl ⟨f, ars, h1, h2.mono hm⟩
  · exact .inr ⟨l, f, tmps, ars, body, h1, h2.mono hm⟩

/-- A function of the program with a body, not the one that the model counts goroutines by. -/
def Plainf (P : Program) (f : FuncId) : Bool :=
  match P.funcs[f]? with
  | some fn => !(fn.name == "runtime.NumGoroutine") && fn.body.isSome
  | none => false

theorem run_callFunc {P : Program} {f : FuncId} (h : Plainf P f = true) (args : Array Value) (w : World) : (callFunc f args).run P w = .ok (.enter f args) w := by
  unfold Plainf at h
  cases hf : P.funcs[f]? with
  | none => simp [hf] at h
  | some fn =>
    simp only [hf, Bool.and_eq_true, Bool.not_eq_true'] at h
    obtain ⟨h1, h2⟩ := h
    have h3 : fn.body.isNone = false := by cases hb : fn.body <;> simp_all
    simp only [callFunc, Sem.run_bind, program, Sem.run, Result.andThen, hf, h1, h3, Bool.false_eq_true, if_false]
    rfl

theorem FDoes.ofFunc {P : Program} {f : FuncId} {caps args : List Value} {R : Value → Imm → List Ent → Prop} (hp : Plainf P f = true) (h : Does P f (args ++ caps) I δ R) :
    FDoes P (.func (.func f) #[] caps.toArray) args I δ R := by
  intro w hs
  refine ⟨{ target := .fn (.func f) caps.toArray, args := args.toArray }, by simp [Deferred.ofValue], .inl ⟨f, (args ++ caps).toArray, ?_, h w hs⟩⟩
  simp only [invoke]
  rw [run_callFunc hp]
  simp

theorem Does.toF {P : Program} {f : FuncId} {args : List Value} {R : Value → Imm → List Ent → Prop} (hp : Plainf P f = true) (h : Does P f args I δ R) :
    FDoes P (.func (.func f) #[] #[]) args I δ R := FDoes.ofFunc (caps := []) hp (by simpa using h)

/-- What is asked of the rest of the heap. -/
def Parts (δ δc δr : List Ent) : Prop := δ.Perm (δc ++ δr)
theorem Parts.none : Parts δ [] δ := List.Perm.refl _
theorem Parts.one {x : Ent} {δ' : List Ent} (h : Del δ x δ') : Parts δ [x] δ' := h.perm
theorem Parts.two {x y : Ent} {δ' δ'' : List Ent} (h : Del δ x δ') (k : Del δ' y δ'') : Parts δ [x, y] δ'' := h.perm.trans (List.Perm.cons _ k.perm)
theorem Parts.all : Parts δ δ [] := by simp [Parts]

theorem wideRound {C : Ctx} {l : Nat} (h : C.r = some l) : C.F = Fence.wide.inRound l := by simp [Ctx.F, Fence.inRound, h]
theorem wideNone {C : Ctx} (h : C.r = none) : C.F = Fence.wide := by simp [Ctx.F, h]; rfl

theorem callsC {n : Nat} {f : FuncId} {args : Array Value} {w : World} {R : Ending → World → Prop} (h : Calls C.P f args w R) : CallsIn C.F n C.P f args w R := by
  have h' := (callsIn_wide (n := n)).2 h
  cases hr : C.r with
  | none => rw [wideNone hr]; exact h'
  | some l => rw [wideRound hr]; exact h'.inRound l
theorem roundC {l : Nat} {f : FuncId} {tmps : Array Value} {ars body : Code} {w : World} {R : Ending → World → Prop} (h : RoundIn Fence.wide 0 C.P l f tmps ars body w R) : RoundIn C.F 0 C.P l f tmps ars body w R := by
  cases hr : C.r with
  | none => rw [wideNone hr]; exact h
  | some l' => rw [wideRound hr]; exact h

theorem semAt_eq (r : Option Nat) (ρ : Operand → Value) (o : Oper) (h : ∀ c, o.op ≠ .defer c) : Oper.semAt r ρ o = execOp ρ o := by
  cases r with
  | none => rfl
  | some l => exact Oper.semAt_some l ρ o h

/-- A call of a function value, or of a function. -/
theorem op_fcall {d : Nat} {x : Operand} {xs : List Operand} {tys : Array TypeId} {ty : TypeId} {pos : String} {after : Array Edge} {fv : Value} {vs : List Value} {δc δr : List Ent} {R : Value → Imm → List Ent → Prop}
    (hx : evS σ x = some fv) (hxs : evL σ xs = some vs) (hd : Nat.blt d C.n = true) (hs : FDoes C.P fv vs I δc R) (hp : Parts δ δc δr)
    (k : ∀ v I' δ', I.le I' → R v I' δ' → OpsJ C ops Q rest ((d, v) :: σ) ds I' (δ' ++ δr)) :
    OpsJ C ops Q ({ dst := some d, op := .call { callee := .value x, args := xs.toArray, argTypes := tys }, type := ty, pos := pos, after := after, guard := none } :: rest) σ ds I δ := by
  intro a w he hsat ht
  have hsat1 := hsat.perm hp
  have ht1 := ht.permR hp
  have hcs : Sat w I δc := by
    have hb : blks (δc ++ δr) = blks δc ++ blks δr := List.filterMap_append
    have hnd := hsat1.nodup
    rw [hb, List.nodup_append] at hnd
    exact ⟨hsat1.imm, fun y hy => hsat1.ents y (List.mem_append_left _ hy), hnd.1, fun b hb1 => hsat1.apart b (by rw [hb]; exact List.mem_append_left _ hb1)⟩
  obtain ⟨dd, hdd, hrun⟩ := hs w hcs
  have hargs : xs.toArray.map a.eval = vs.toArray := by simp [he.evs hxs]
  have hres : (resolve a.eval { callee := .value x, args := xs.toArray, argTypes := tys } ty).run C.P w = .ok dd w := by
    simp only [resolve, hargs, he.ev hx]
    exact hdd
  refine wpListIn_plain rfl fun K hK => ?_
  unfold Oper.wpIn
  refine ⟨fun _ _ => trivial, ?_⟩
  rw [semAt_eq _ _ _ (by intro c hc; cases hc)]
  have hk : ∀ v w'', Ret w I δc R (.returned v) w'' → K (a.put (some d) v) w'' := by
    rintro v w'' ⟨v', I', δ', h1, h2, h3, h4⟩
    cases h1
    obtain ⟨f1, f2⟩ := frame hsat1 h2 h3
    exact hK _ _ (k v I' δ' h3.imm h4 _ _ (he.put hd v) f1 (ht1.trans f2))
  have hex : (execOp a.eval { dst := some d, op := .call { callee := .value x, args := xs.toArray, argTypes := tys }, type := ty, pos := pos, after := after, guard := none }).run C.P w = (invoke dd.target dd.args).run C.P w := by
    simp only [execOp, Sem.run_bind, hres, Result.andThen]
  rw [hex]
  rcases hrun with ⟨f, ars, h1, h2⟩ | ⟨l, f, tmps, ars, body, h1, h2⟩
  · rw [h1, Oper.uponIn_enter]
    refine ⟨fun h => (by simp [Ctx.F, Fence.wide] at h), (callsC h2).mono fun e w'' hr => ?_⟩
    obtain ⟨v, I', δ', rfl, h4⟩ := hr
    exact hk v w'' ⟨v, I', δ', rfl, h4⟩
  · rw [h1, Oper.uponIn_round]
    refine ⟨fun h => (by simp [Ctx.F, Fence.wide] at h), (roundC h2).mono fun e w'' hr => ?_⟩
    obtain ⟨v, I', δ', rfl, h4⟩ := hr
    exact hk v w'' ⟨v, I', δ', rfl, h4⟩

/-- A call of a function by its number. -/
theorem op_call {d : Nat} {f : FuncId} {xs : List Operand} {tys : Array TypeId} {ty : TypeId} {pos : String} {after : Array Edge} {vs : List Value} {δc δr : List Ent} {R : Value → Imm → List Ent → Prop}
    (hpl : Plainf C.P f = true) (hxs : evL σ xs = some vs) (hd : Nat.blt d C.n = true) (hs : Does C.P f vs I δc R) (hp : Parts δ δc δr)
    (k : ∀ v I' δ', I.le I' → R v I' δ' → OpsJ C ops Q rest ((d, v) :: σ) ds I' (δ' ++ δr)) :
    OpsJ C ops Q ({ dst := some d, op := .call { callee := .value (.func f), args := xs.toArray, argTypes := tys }, type := ty, pos := pos, after := after, guard := none } :: rest) σ ds I δ :=
  op_fcall rfl hxs hd (hs.toF hpl) hp k

/-! ### a value without a step on the heap -/
theorem op_val {o : Oper} {d : Nat} {v : Value} (hg : o.guard = none) (hdst : o.dst = some d) (hd : Nat.blt d C.n = true) (hnd : ∀ c, o.op ≠ .defer c)
    (hrun : ∀ a w, EnvOK C.n σ ds a → Sat w I δ → (execOp a.eval o).run C.P w = .ok (.value v) w) (k : OpsJ C ops Q rest ((d, v) :: σ) ds I δ) : OpsJ C ops Q (o :: rest) σ ds I δ := by
  intro a w he hs ht
  refine wpListIn_plain hg fun K hK => ?_
  unfold Oper.wpIn
  refine ⟨fun _ _ => trivial, ?_⟩
  rw [semAt_eq _ _ _ hnd, hrun a w he hs, Oper.uponIn_value]
  refine hK _ _ ?_
  rw [hdst]
  exact k _ _ (he.put hd v) hs ht

/-- A step on the heap that yields a value. -/
theorem op_step {o : Oper} {d : Nat} (hg : o.guard = none) (hdst : o.dst = some d) (hd : Nat.blt d C.n = true) (hnd : ∀ c, o.op ≠ .defer c)
    (hrun : ∀ a w, EnvOK C.n σ ds a → Sat w I δ → ∃ v w' I' δ', (execOp a.eval o).run C.P w = .ok (.value v) w' ∧ Sat w' I' δ' ∧ Tr w I δ w' I' δ' ∧ OpsJ C ops Q rest ((d, v) :: σ) ds I' δ') : OpsJ C ops Q (o :: rest) σ ds I δ := by
  intro a w he hs ht
  obtain ⟨v, w', I', δ', hr, s', t', k⟩ := hrun a w he hs
  refine wpListIn_plain hg fun K hK => ?_
  unfold Oper.wpIn
  refine ⟨fun _ _ => trivial, ?_⟩
  rw [semAt_eq _ _ _ hnd, hr, Oper.uponIn_value]
  refine hK _ _ ?_
  rw [hdst]
  exact k _ _ (he.put hd v) s' (ht.trans t')

/-- A step on the heap alone. -/
theorem op_act {o : Oper} (hg : o.guard = none) (hdst : o.dst = none) (hnd : ∀ c, o.op ≠ .defer c)
    (hrun : ∀ a w, EnvOK C.n σ ds a → Sat w I δ → ∃ w' I' δ', (execOp a.eval o).run C.P w = .ok .skip w' ∧ Sat w' I' δ' ∧ Tr w I δ w' I' δ' ∧ OpsJ C ops Q rest σ ds I' δ') : OpsJ C ops Q (o :: rest) σ ds I δ := by
  intro a w he hs ht
  obtain ⟨w', I', δ', hr, s', t', k⟩ := hrun a w he hs
  refine wpListIn_plain hg fun K hK => ?_
  unfold Oper.wpIn
  refine ⟨fun _ _ => trivial, ?_⟩
  rw [semAt_eq _ _ _ hnd, hr, Oper.uponIn_skip]
  refine hK _ _ ?_
  exact k _ _ (he.put' hdst _) s' (ht.trans t')

/-! ### guards -/
theorem op_want {dst : Option Nat} {op : Op} {ty : TypeId} {pos : String} {after : Array Edge} {j t : Nat} {b : Bool} (hj : (ops[j]?).bind (·.dst) = some t) (hv : look t σ = some (.bool b))
    (h : OpsJ C ops Q ({ dst := dst, op := op, type := ty, pos := pos, after := after, guard := none } :: rest) σ ds I δ) :
    OpsJ C ops Q ({ dst := dst, op := op, type := ty, pos := pos, after := after, guard := some (j, b) } :: rest) σ ds I δ := by
  intro a w he hs ht
  have h1 := h a w he hs ht
  have hy : yielded ops a.tmps j = some b := by simp [yielded, hj, he.val t _ hv]
  rw [wpListIn, if_pos (by simp [Region.wanted])] at h1
  rw [wpListIn, if_pos (by simp [Region.wanted, hy])]
  exact h1

theorem op_skip {d : Nat} {op : Op} {ty : TypeId} {pos : String} {after : Array Edge} {j t : Nat} {b : Bool} {u : Value} (hj : (ops[j]?).bind (·.dst) = some t) (hv : look t σ = some u) (hne : u ≠ .bool b) (hd : Nat.blt d C.n = true)
    (h : OpsJ C ops Q rest ((d, undef) :: σ) ds I δ) :
    OpsJ C ops Q ({ dst := some d, op := op, type := ty, pos := pos, after := after, guard := some (j, b) } :: rest) σ ds I δ := by
  intro a w he hs ht
  have hy : (yielded ops a.tmps j == some b) = false := by
    simp only [yielded, hj, Option.bind_some, he.val t _ hv]
    cases u <;> simp_all
  rw [wpListIn, if_neg (by simp [Region.wanted, hy])]
  exact ⟨fun _ _ => trivial, h _ _ (he.put hd _) hs ht⟩

/-! ### loops -/
theorem least {p : Nat → Prop} (h : ∃ m, p m) : ∃ m, p m ∧ ∀ k, p k → m ≤ k := by
  obtain ⟨m, hm⟩ := h
  induction m using Nat.strongRecOn with
  | _ m ih =>
    by_cases hk : ∃ k, k < m ∧ p k
    · obtain ⟨k, hk, hp⟩ := hk; exact ih k hk hp
    · exact ⟨m, hm, fun k hp => Nat.le_of_not_lt fun hlt => hk ⟨k, hlt, hp⟩⟩

/-- Behind a round: the invariant again, at a lesser measure. -/
def Again (C : Ctx) (ds : List Nat) (Inv : Nat → Env → Imm → List Ent → Prop) (m : Nat) : Act → World → Prop := fun a w =>
  ∃ m' σ' I' δ', m' < m ∧ Inv m' σ' I' δ' ∧ EnvOK C.n σ' ds a ∧ Sat w I' δ' ∧ Tr C.w0 C.I0 C.δ0 w I' δ'

theorem code_loop {c : Code} (Inv : Nat → Env → Imm → List Ent → Prop) (m0 : Nat) (σ0 : Env) (h0 : Inv m0 σ0 I δ) (hsub : SubEnv σ0 σ)
    (round : ∀ m σ' I' δ', Inv m σ' I' δ' → CodeJ C c (Exit.then (Again C ds Inv m) Q) σ' ds I' δ') : CodeJ C (.loop c) Q σ ds I δ := by
  intro a w he hs ht
  let J : Nat → Act → World → Prop := fun m a w => ∃ σ' I' δ', Inv m σ' I' δ' ∧ EnvOK C.n σ' ds a ∧ Sat w I' δ' ∧ Tr C.w0 C.I0 C.δ0 w I' δ'
  have key : ∀ m a w, J m a w → (Code.loop c).wpIn C.F 0 C.P Q a w := by
    classical
    intro m a w hJ
    refine wpIn_loop (fun a w => ∃ m, J m a w) (fun a w => if h : ∃ m, J m a w then (least h).choose else 0) ⟨m, hJ⟩ ?_
    intro a1 w1 hex
    obtain ⟨σ', I', δ', hi, he', hs', ht'⟩ := (least hex).choose_spec.1
    refine wpIn_mono (round _ σ' I' δ' hi a1 w1 he' hs' ht') ?_
    intro e a2 w2 hq
    cases e with
    | normal =>
      obtain ⟨m', σ2, I2, δ2, hlt, hi2, he2, hs2, ht2⟩ := hq
      have hex2 : ∃ m, J m a2 w2 := ⟨m', σ2, I2, δ2, hi2, he2, hs2, ht2⟩
      refine ⟨hex2, ?_⟩
      simp only [dif_pos hex, dif_pos hex2]
      exact Nat.lt_of_le_of_lt ((least hex2).choose_spec.2 _ ⟨σ2, I2, δ2, hi2, he2, hs2, ht2⟩) hlt
    | exit id => exact hq
    | goto l => exact hq
    | ret => exact hq
    | panic ch => exact hq
    | outgrown => exact hq
  exact key m0 a w ⟨σ0, I, δ, h0, he.sub hsub, hs, ht⟩

theorem post_again {Inv : Nat → Env → Imm → List Ent → Prop} {m : Nat} (m' : Nat) (σ' : Env) (hlt : m' < m) (hi : Inv m' σ' I δ) (hsub : SubEnv σ' σ) :
    PostJ C (Exit.then (Again C ds Inv m) Q) .normal σ ds I δ :=
  fun _ _ he hs ht => ⟨m', σ', I, δ, hlt, hi, he.sub hsub, hs, ht⟩

/-- Ways that meet again: what follows is proved once, from what holds where they meet. -/
def Meet (C : Ctx) (ds : List Nat) (M : Env → Imm → List Ent → Prop) : Act → World → Prop := fun a w =>
  ∃ σ' I' δ', M σ' I' δ' ∧ EnvOK C.n σ' ds a ∧ Sat w I' δ' ∧ Tr C.w0 C.I0 C.δ0 w I' δ'
theorem code_seq_meet {x y : Code} (M : Env → Imm → List Ent → Prop) (hx : CodeJ C x (Exit.then (Meet C ds M) Q) σ ds I δ) (hy : ∀ σ' I' δ', M σ' I' δ' → CodeJ C y Q σ' ds I' δ') :
    CodeJ C (.seq x y) Q σ ds I δ := by
  intro a w he hs ht
  refine wpIn_seq (wpIn_mono (hx a w he hs ht) ?_)
  intro e a2 w2 hq
  cases e with
  | normal => obtain ⟨σ', I', δ', hm, he', hs', ht'⟩ := hq; exact hy _ _ _ hm _ _ he' hs' ht'
  | exit id => exact hq
  | goto l => exact hq
  | ret => exact hq
  | panic ch => exact hq
  | outgrown => exact hq
theorem post_meet {M : Env → Imm → List Ent → Prop} (σ' : Env) (hm : M σ' I δ) (hsub : SubEnv σ' σ) : PostJ C (Exit.then (Meet C ds M) Q) .normal σ ds I δ :=
  fun _ _ he hs ht => ⟨σ', I, δ, hm, he.sub hsub, hs, ht⟩
end Go.Proofs.Ytdbadicpbmndbaa.Lg
/- The rules of the logic, one for each kind of operation. No condition. -/
namespace Go.Proofs.Ytdbadicpbmndbaa.Lg
open Go Go.RowKit

variable {C : Ctx} {Q : Exit → Act → World → Prop} {σ : Env} {ds : List Nat} {I : Imm} {δ : List Ent} {ops : Array Oper} {rest : List Oper}
variable {d : Nat} {ty : TypeId} {pos : String} {after : Array Edge}

/-! ### types -/
structure Ty (P : Program) (t : TypeId) (agg : Bool) (n : Nat) : Prop where
  desc : ∃ u, P.underlying t = some u ∧ (match u with | .struct _ | .array _ _ => true | _ => false) = agg
  size : (P.info? t).map (·.size) = some n
  one : agg = false → n = 1

/-- n cells as one value. -/
def pack (agg : Bool) (cs : List Value) : Value := bif agg then .agg cs.toArray else cs.headD undef
/-- the first n of a list, as one value -/
def ld : Bool → Nat → List Value → Option Value
  | false, _, c :: _ => some c
  | true, 0, _ => some (.agg #[])
  | true, 1, a :: _ => some (.agg #[a])
  | true, 2, a :: b :: _ => some (.agg #[a, b])
  | true, 3, a :: b :: c :: _ => some (.agg #[a, b, c])
  | true, 4, a :: b :: c :: e :: _ => some (.agg #[a, b, c, e])
  | true, 5, a :: b :: c :: e :: f :: _ => some (.agg #[a, b, c, e, f])
  | true, 6, a :: b :: c :: e :: f :: g :: _ => some (.agg #[a, b, c, e, f, g])
  | true, 7, a :: b :: c :: e :: f :: g :: h :: _ => some (.agg #[a, b, c, e, f, g, h])
  | _, _, _ => none

theorem ld_spec {agg : Bool} {n : Nat} {cs : List Value} {v : Value} (h : ld agg n cs = some v) (h1 : agg = false → n = 1) :
    ∃ us : List Value, us.length = n ∧ v = pack agg us ∧ ∀ (j : Nat) (u : Value), us[j]? = some u → cs[j]? = some u := by
  unfold ld at h
  split at h <;> simp at h
  all_goals subst h
  · rename_i c r
    exact ⟨[c], by simp [h1 rfl], rfl, fun j u hj => by cases j <;> simp_all⟩
  · exact ⟨[], rfl, rfl, fun j u hj => by simp at hj⟩
  · rename_i a r; exact ⟨[a], rfl, rfl, fun j u hj => by rcases j with _ | j <;> simp_all⟩
  · rename_i a b r; exact ⟨[a, b], rfl, rfl, fun j u hj => by rcases j with _ | _ | j <;> simp_all⟩
  · rename_i a b c r; exact ⟨[a, b, c], rfl, rfl, fun j u hj => by rcases j with _ | _ | _ | j <;> simp_all⟩
  · rename_i a b c e r; exact ⟨[a, b, c, e], rfl, rfl, fun j u hj => by rcases j with _ | _ | _ | _ | j <;> simp_all⟩
  · rename_i a b c e f r; exact ⟨[a, b, c, e, f], rfl, rfl, fun j u hj => by rcases j with _ | _ | _ | _ | _ | j <;> simp_all⟩
  · rename_i a b c e f g r; exact ⟨[a, b, c, e, f, g], rfl, rfl, fun j u hj => by rcases j with _ | _ | _ | _ | _ | _ | j <;> simp_all⟩
  · rename_i a b c e f g h r; exact ⟨[a, b, c, e, f, g, h], rfl, rfl, fun j u hj => by rcases j with _ | _ | _ | _ | _ | _ | _ | j <;> simp_all⟩

theorem run_loadAt {P : Program} {t : TypeId} {agg : Bool} {n : Nat} (ht : Ty P t agg n) {w : World} {a : Addr} {cs : List Value} (hl : cs.length = n)
    (hc : ∀ j v, cs[j]? = some v → w.cell? (a.add j) = some v) : (Instr.loadAt t (.pointer (some a))).run P w = .ok (pack agg cs) w := by
  obtain ⟨u, hu, hagg⟩ := ht.desc
  have hsz : (sizeOf t).run P w = .ok n w := by
    have h := ht.size
    cases hq : P.info? t with
    | none => simp [hq] at h
    | some i => simp [hq] at h; simp [sizeOf, typeInfo, program, Sem.run, hq, h]
  have hund : (underlying t).run P w = .ok u w := by simp [underlying, program, Sem.run, hu]
  have hia : (isAgg t).run P w = .ok agg w := by
    simp only [isAgg, Sem.run_bind, hund, Result.andThen]
    cases u <;> simp at hagg <;> subst hagg <;> rfl
  cases agg with
  | true =>
    have hlc : (loadCells a n).run P w = .ok cs.toArray w := by rw [← hl]; exact run_loadCells_list (P := P) w a cs hc
    simp [Instr.loadAt, Instr.sureAddr, loadVar, hia, hsz, hlc, pack]
  | false =>
    have h1 := ht.one rfl
    rw [h1] at hl
    obtain ⟨c, rfl⟩ := List.length_eq_one_iff.1 hl
    have hc0 : w.cell? a = some c := by have := hc 0 c rfl; simpa [Addr.add] using this
    simp [Instr.loadAt, Instr.sureAddr, loadVar, hia, hc0, pack]

/-! ### values -/
/-- The operation yields this value and leaves the heap as it is. -/
def ValJ (C : Ctx) (σ : Env) (ds : List Nat) (I : Imm) (δ : List Ent) (op : Op) (v : Value) : Prop :=
  ∀ (dst : Option Nat) (ty : TypeId) (pos : String) (after : Array Edge) (g : Option (Nat × Bool)) (a : Act) (w : World), EnvOK C.n σ ds a → Sat w I δ →
    (execOp a.eval { dst := dst, op := op, type := ty, pos := pos, after := after, guard := g }).run C.P w = .ok (.value v) w

theorem ValJ.nodefer {op : Op} {v : Value} (h : ValJ C σ ds I δ op v) {a : Act} {w : World} (he : EnvOK C.n σ ds a) (hs : Sat w I δ) : ∀ c, op ≠ .defer c := by
  intro c hc
  subst hc
  have := h none 0 "" #[] none a w he hs
  simp only [execOp, Sem.run_bind] at this
  cases hr : (resolve a.eval c 0).run C.P w <;> simp [hr] at this

theorem op_v {op : Op} {v : Value} (h : ValJ C σ ds I δ op v) (hd : Nat.blt d C.n = true) (k : OpsJ C ops Q rest ((d, v) :: σ) ds I δ) :
    OpsJ C ops Q ({ dst := some d, op := op, type := ty, pos := pos, after := after, guard := none } :: rest) σ ds I δ :=
  fun a w he hs ht => op_val rfl rfl hd (h.nodefer he hs) (fun a w he hs => h _ _ _ _ _ a w he hs) k a w he hs ht

/-! ### copies -/
theorem v_move {x : Operand} {v : Value} (hx : evS σ x = some v) :
    ValJ C σ ds I δ (.move x) (v) :=
  fun _ _ _ _ _ => (fun a w he _ => by simp [execOp, he.ev hx])
theorem v_assign {x : Operand} {v : Value} (hx : evS σ x = some v) :
    ValJ C σ ds I δ (.assign x) (v) :=
  fun _ _ _ _ _ => (fun a w he _ => by simp [execOp, he.ev hx])
theorem v_pickt {c x y : Operand} {u : Value} (hc : evS σ c = some (.bool true)) (hx : evS σ x = some u) : ValJ C σ ds I δ (.pick c x y) u :=
  fun _ _ _ _ _ a w he _ => by simp [execOp, asBool, he.ev hc, he.ev hx]
theorem v_pickf {c x y : Operand} {v : Value} (hc : evS σ c = some (.bool false)) (hy : evS σ y = some v) : ValJ C σ ds I δ (.pick c x y) v :=
  fun _ _ _ _ _ a w he _ => by simp [execOp, asBool, he.ev hc, he.ev hy]
theorem v_pickb {c x y : Operand} {b u v : Bool} (hc : evS σ c = some (.bool b)) (hx : evS σ x = some (.bool u)) (hy : evS σ y = some (.bool v)) : ValJ C σ ds I δ (.pick c x y) (.bool (if b then u else v)) :=
  fun _ _ _ _ _ a w he _ => by cases b <;> simp [execOp, asBool, he.ev hc, he.ev hx, he.ev hy]
theorem v_nilCheck {x : Operand} {a : Addr} (hx : evS σ x = some (.pointer (some a))) :
    ValJ C σ ds I δ (.nilCheck x) (.pointer (some a)) :=
  fun _ _ _ _ _ => (fun a w he _ => by simp [execOp, he.ev hx])
theorem v_extract {x : Operand} {i : Nat} {vs : Array Value} {v : Value} (hx : evS σ x = some (.tuple vs)) (hv : vs[i]? = some v) :
    ValJ C σ ds I δ (.extract x i) (v) :=
  fun _ _ _ _ _ => (fun a w he _ => by simp [execOp, Instr.extract, he.ev hx, hv])
theorem v_makeFunc {f : Fn} {first caps : List Operand} {vs us : List Value} (hx : evL σ first = some vs) (hy : evL σ caps = some us) :
    ValJ C σ ds I δ (.makeFunc f first.toArray caps.toArray) (.func f vs.toArray us.toArray) :=
  fun _ _ _ _ _ => (fun a w he _ => by simp [execOp, Instr.makeFunc, he.evs hx, he.evs hy])

/-! ### arithmetic -/
theorem v_bin {op : BinOp} {t t' : TypeId} {x y : Operand} {u v z : Value} (hx : evS σ x = some u) (hy : evS σ y = some v)
    (hg : ∀ w, (eqGuard op t x y u v).run C.P w = .ok () w) (hrun : ∀ w, (binOp op t u v).run C.P w = .ok z w) : ValJ C σ ds I δ (.binOp op t x y t') z :=
  fun _ _ _ _ _ a w he _ => by simp [execOp, he.ev hx, he.ev hy, hg, hrun]

theorem wrap_id {n : Int} (h : -9223372036854775808 ≤ n ∧ n ≤ 9223372036854775807) : IntKind.i64.wrap n = n := IntWalk.i64_in n h

theorem guard_int {P : Program} (op : BinOp) (t : TypeId) (x y : Operand) (k k' : IntKind) (a b : Int) (w : World) : (eqGuard op t x y (.int k a) (.int k' b)).run P w = .ok () w := by
  unfold eqGuard; cases op <;> rfl
theorem guard_bool {P : Program} (op : BinOp) (t : TypeId) (x y : Operand) (a b : Bool) (w : World) : (eqGuard op t x y (.bool a) (.bool b)).run P w = .ok () w := by
  unfold eqGuard; cases op <;> rfl
theorem guard_string {P : Program} (op : BinOp) (t : TypeId) (x y : Operand) (a b : ByteArray) (w : World) : (eqGuard op t x y (.string a) (.string b)).run P w = .ok () w := by
  unfold eqGuard; cases op <;> rfl
theorem guard_slice {P : Program} (op : BinOp) (t : TypeId) (x y : Operand) (a b : Option Addr) (n m c e : Nat) (w : World) : (eqGuard op t x y (.slice a n c) (.slice b m e)).run P w = .ok () w := by
  unfold eqGuard; cases op <;> rfl

theorem v_add {t t' : TypeId} {x y : Operand} {a b : Int} (hx : evS σ x = some (.int .i64 a)) (hy : evS σ y = some (.int .i64 b)) : ValJ C σ ds I δ (.binOp .add t x y t') (.int .i64 (IntKind.i64.wrap (a + b))) :=
  v_bin hx hy (fun _ => guard_int ..) (fun _ => rfl)
theorem v_addb {t t' : TypeId} {x y : Operand} {a b c : Int} (hx : evS σ x = some (.int .i64 a)) (hy : evS σ y = some (.int .i64 b)) (hc : a + b = c) (hb : -9223372036854775808 ≤ c ∧ c ≤ 9223372036854775807) : ValJ C σ ds I δ (.binOp .add t x y t') (.int .i64 c) := by
  have := v_add (C := C) (ds := ds) (I := I) (δ := δ) (t := t) (t' := t') hx hy
  rwa [hc, wrap_id hb] at this
theorem v_sub {t t' : TypeId} {x y : Operand} {a b : Int} (hx : evS σ x = some (.int .i64 a)) (hy : evS σ y = some (.int .i64 b)) : ValJ C σ ds I δ (.binOp .sub t x y t') (.int .i64 (IntKind.i64.wrap (a - b))) :=
  v_bin hx hy (fun _ => guard_int ..) (fun _ => rfl)
theorem v_subb {t t' : TypeId} {x y : Operand} {a b c : Int} (hx : evS σ x = some (.int .i64 a)) (hy : evS σ y = some (.int .i64 b)) (hc : a - b = c) (hb : -9223372036854775808 ≤ c ∧ c ≤ 9223372036854775807) : ValJ C σ ds I δ (.binOp .sub t x y t') (.int .i64 c) := by
  have := v_sub (C := C) (ds := ds) (I := I) (δ := δ) (t := t) (t' := t') hx hy
  rwa [hc, wrap_id hb] at this
theorem v_mul {t t' : TypeId} {x y : Operand} {a b : Int} (hx : evS σ x = some (.int .i64 a)) (hy : evS σ y = some (.int .i64 b)) : ValJ C σ ds I δ (.binOp .mul t x y t') (.int .i64 (IntKind.i64.wrap (a * b))) :=
  v_bin hx hy (fun _ => guard_int ..) (fun _ => rfl)
theorem v_mulb {t t' : TypeId} {x y : Operand} {a b c : Int} (hx : evS σ x = some (.int .i64 a)) (hy : evS σ y = some (.int .i64 b)) (hc : a * b = c) (hb : -9223372036854775808 ≤ c ∧ c ≤ 9223372036854775807) : ValJ C σ ds I δ (.binOp .mul t x y t') (.int .i64 c) := by
  have := v_mul (C := C) (ds := ds) (I := I) (δ := δ) (t := t) (t' := t') hx hy
  rwa [hc, wrap_id hb] at this

/-- a comparison of whole numbers -/
def cmpI : BinOp → Int → Int → Option Bool
  | .lss, a, b => some (decide (a < b))
  | .leq, a, b => some (decide (a ≤ b))
  | .gtr, a, b => some (decide (b < a))
  | .geq, a, b => some (decide (b ≤ a))
  | .eql, a, b => some (decide (a = b))
  | .neq, a, b => some (decide (a ≠ b))
  | _, _, _ => none
theorem v_cmp {op : BinOp} {t t' : TypeId} {x y : Operand} {a b : Int} {z : Bool} (hx : evS σ x = some (.int .i64 a)) (hy : evS σ y = some (.int .i64 b)) (hz : cmpI op a b = some z) : ValJ C σ ds I δ (.binOp op t x y t') (.bool z) :=
  v_bin hx hy (fun _ => guard_int ..) (fun w => by
    cases op <;> simp only [cmpI, Option.some.injEq, reduceCtorEq] at hz
    all_goals subst hz
    all_goals first | rfl | (show Result.ok (Value.bool (!(a == b))) w = _; by_cases h : a = b <;> simp [h]))
theorem v_cmpt {op : BinOp} {t t' : TypeId} {x y : Operand} {a b : Int} {p : Prop} {ip : Decidable p} (hx : evS σ x = some (.int .i64 a)) (hy : evS σ y = some (.int .i64 b)) (hz : cmpI op a b = some (@decide p ip)) (hp : p) : ValJ C σ ds I δ (.binOp op t x y t') (.bool true) :=
  v_cmp hx hy (by rw [hz]; simp [hp])
theorem v_cmpf {op : BinOp} {t t' : TypeId} {x y : Operand} {a b : Int} {p : Prop} {ip : Decidable p} (hx : evS σ x = some (.int .i64 a)) (hy : evS σ y = some (.int .i64 b)) (hz : cmpI op a b = some (@decide p ip)) (hp : ¬ p) : ValJ C σ ds I δ (.binOp op t x y t') (.bool false) :=
  v_cmp hx hy (by rw [hz]; simp [hp])
def cmpB : BinOp → Bool → Bool → Option Bool
  | .eql, a, b => some (a == b)
  | .neq, a, b => some (a != b)
  | _, _, _ => none
theorem v_eqb {op : BinOp} {t t' : TypeId} {x y : Operand} {a b z : Bool} (ht : C.P.underlying t = some .bool)
    (hx : evS σ x = some (.bool a)) (hy : evS σ y = some (.bool b)) (hz : cmpB op a b = some z) : ValJ C σ ds I δ (.binOp op t x y t') (.bool z) :=
  v_bin hx hy (fun _ => guard_bool ..) (fun w => by
    have hu : (underlying t).run C.P w = .ok .bool w := by simp [underlying, program, Sem.run, ht]
    have he : (Op.equal t (.bool a) (.bool b)).run C.P w = .ok (a == b) w := by
      show (Op.equalIn (9999 + 1) t (.bool a) (.bool b)).run C.P w = _
      rw [Op.equalIn]
      simp only [Sem.run_bind, hu, Result.andThen]
      rfl
    have h2 : ∀ f : Bool → Bool, (do pure (Value.bool (f (← Op.equal t (.bool a) (.bool b)))) : Sem Value).run C.P w = .ok (.bool (f (a == b))) w := fun f => by simp only [Sem.run_bind, he, Result.andThen]; rfl
    cases op <;> simp only [cmpB, Option.some.injEq, reduceCtorEq] at hz
    · subst hz; exact h2 id
    · subst hz; exact h2 not)
def cmpS : BinOp → ByteArray → ByteArray → Option Bool
  | .eql, a, b => some (a.toList == b.toList)
  | .neq, a, b => some (!(a.toList == b.toList))
  | _, _, _ => none
theorem v_eqs {op : BinOp} {t t' : TypeId} {x y : Operand} {a b : ByteArray} {z : Bool}
    (hx : evS σ x = some (.string a)) (hy : evS σ y = some (.string b)) (hz : cmpS op a b = some z) : ValJ C σ ds I δ (.binOp op t x y t') (.bool z) :=
  v_bin hx hy (fun _ => guard_string ..) (fun w => by
    cases op <;> simp only [cmpS, Option.some.injEq, reduceCtorEq] at hz
    all_goals subst hz
    all_goals rfl)
/-- a slice against nil -/
def cmpN : BinOp → Option Addr → Option Bool
  | .eql, a => some a.isNone
  | .neq, a => some a.isSome
  | _, _ => none
theorem v_nilq {op : BinOp} {t e : TypeId} {t' : TypeId} {x y : Operand} {ad : Option Addr} {n c : Nat} {z : Bool} (ht : C.P.underlying t = some (.slice e))
    (hx : evS σ x = some (.slice ad n c)) (hy : evS σ y = some (.slice none 0 0)) (hz : cmpN op ad = some z) : ValJ C σ ds I δ (.binOp op t x y t') (.bool z) :=
  v_bin hx hy (fun _ => guard_slice ..) (fun w => by
    have hu : (underlying t).run C.P w = .ok (.slice e) w := by simp [underlying, program, Sem.run, ht]
    have he : (Op.equal t (.slice ad n c) (.slice none 0 0)).run C.P w = .ok ad.isNone w := by
      show (Op.equalIn (9999 + 1) t (.slice ad n c) (.slice none 0 0)).run C.P w = _
      rw [Op.equalIn]
      simp only [Sem.run_bind, hu, Result.andThen]
      cases ad <;> rfl
    have h2 : ∀ f : Bool → Bool, (do pure (Value.bool (f (← Op.equal t (.slice ad n c) (.slice none 0 0)))) : Sem Value).run C.P w = .ok (.bool (f ad.isNone)) w := fun f => by simp only [Sem.run_bind, he, Result.andThen]; rfl
    cases op <;> simp only [cmpN, Option.some.injEq, reduceCtorEq] at hz
    · subst hz; exact h2 id
    · subst hz; have := h2 not; cases ad <;> exact this)
theorem v_not {t : TypeId} {x : Operand} {b : Bool} (hx : evS σ x = some (.bool b)) : ValJ C σ ds I δ (.unOp .not t x) (.bool (!b)) :=
  fun _ _ _ _ _ a w he _ => by simp [execOp, he.ev hx, Op.unary]
/-! ### lengths -/
theorem v_len {t e : TypeId} {x : Operand} {ad : Option Addr} {n c : Nat} (ht : C.P.underlying t = some (.slice e)) (hx : evS σ x = some (.slice ad n c)) :
    ValJ C σ ds I δ (.call { callee := .builtin .len, args := #[x], argTypes := #[t] }) (.int .i64 n) :=
  fun _ _ _ _ _ => (fun a w he _ => by
    have hu : (underlying t).run C.P w = .ok (.slice e) w := by simp [underlying, program, Sem.run, ht]
    simp [execOp, resolve, invoke, builtin, Builtin.len_, he.ev hx, hu, goInt])
theorem v_lens {t : TypeId} {x : Operand} {s : ByteArray} (ht : C.P.underlying t = some .string) (hx : evS σ x = some (.string s)) :
    ValJ C σ ds I δ (.call { callee := .builtin .len, args := #[x], argTypes := #[t] }) (.int .i64 s.size) :=
  fun _ _ _ _ _ => (fun a w he _ => by
    have hu : (underlying t).run C.P w = .ok .string w := by simp [underlying, program, Sem.run, ht]
    simp [execOp, resolve, invoke, builtin, Builtin.len_, he.ev hx, hu, goInt])

/-! ### boxes -/
def cellsL : Value → List Value
  | .agg cs => cs.toList
  | v => [v]
theorem cellsL_cells (v : Value) : v.cells = (cellsL v).toArray := by cases v <;> simp [Value.cells, cellsL]

theorem o_box {e : TypeId} {x : Operand} {v : Value} {cs : List Value} (hx : evS σ x = some v) (hv : cellsL v = cs) (hd : Nat.blt d C.n = true)
    (k : ∀ b, OpsJ C ops Q rest ((d, .pointer (some ⟨b, 0, none⟩)) :: σ) ds I (.box b e cs :: δ)) :
    OpsJ C ops Q ({ dst := some d, op := .box e x, type := ty, pos := pos, after := after, guard := none } :: rest) σ ds I δ :=
  op_step rfl rfl hd (by intro c hc; cases hc) (fun a w he hs => by
    subst hv
    obtain ⟨s', t'⟩ := hs.alloc (.box w.heap.size e (cellsL v)) (.cells (cellsL v).toArray e) rfl (heap_alloc_new w _)
    refine ⟨_, _, _, _, ?_, s', t', k w.heap.size⟩
    simp [execOp, Instr.box, newVar, newRow, newObj, Sem.run, he.ev hx, cellsL_cells])

theorem o_alloc {e : TypeId} {z : Value} {cs : List Value} (hz : (C.P.info? e).map (·.zero) = some (some z)) (hv : cellsL z = cs) (hd : Nat.blt d C.n = true)
    (k : ∀ b, OpsJ C ops Q rest ((d, .pointer (some ⟨b, 0, none⟩)) :: σ) ds I (.box b e cs :: δ)) :
    OpsJ C ops Q ({ dst := some d, op := .alloc e, type := ty, pos := pos, after := after, guard := none } :: rest) σ ds I δ :=
  op_step rfl rfl hd (by intro c hc; cases hc) (fun a w he hs => by
    subst hv
    obtain ⟨s', t'⟩ := hs.alloc (.box w.heap.size e (cellsL z)) (.cells (cellsL z).toArray e) rfl (heap_alloc_new w _)
    refine ⟨_, _, _, _, ?_, s', t', k w.heap.size⟩
    cases hq : C.P.info? e with
    | none => simp [hq] at hz
    | some i =>
      simp [hq] at hz
      simp [execOp, Instr.alloc, zeroValue, typeInfo, program, newVar, newRow, newObj, Sem.run, hq, hz, cellsL_cells])

/-- Membership of an entry. -/
inductive Has : List Ent → Ent → Prop
  | here {x : Ent} {r : List Ent} : Has (x :: r) x
  | there {x y : Ent} {r : List Ent} (h : Has r x) : Has (y :: r) x
theorem Has.mem {δ : List Ent} {x : Ent} (h : Has δ x) : x ∈ δ := by
  induction h with
  | here => exact List.mem_cons_self ..
  | there _ ih => exact List.mem_cons_of_mem _ ih

theorem box_cell {w : World} {b j : Nat} {e : TypeId} {cs : List Value} (h : (Ent.box b e cs).holds w) : w.cell? ⟨b, j, none⟩ = cs[j]? := by
  have h' : w.heap[b]? = some (.cells cs.toArray e (0, 0)) := h
  simp [World.cell?, h']

theorem add_plain (g i j : Nat) : (⟨g, i, none⟩ : Addr).add j = ⟨g, i + j, none⟩ := by unfold Addr.add; split <;> simp_all

theorem v_load {t e : TypeId} {x : Operand} {b off n : Nat} {agg : Bool} {cs : List Value} {v : Value} (ht : Ty C.P t agg n) (hx : evS σ x = some (.pointer (some ⟨b, off, none⟩))) (hh : Has δ (.box b e cs))
    (hv : ld agg n (cs.drop off) = some v) :
    ValJ C σ ds I δ (.load t x) (v) :=
  fun _ _ _ _ _ => (fun a w he hs => by
    obtain ⟨us, hl, rfl, hu⟩ := ld_spec hv ht.one
    have := run_loadAt ht (w := w) (a := ⟨b, off, none⟩) hl (fun j v hj => by
      rw [add_plain, box_cell (hs.ents _ hh.mem)]
      have := hu j v hj
      simpa [List.getElem?_drop] using this)
    simp [execOp, he.ev hx, this])

/-- Cells that are written. -/
def stL : List Value → Nat → List Value → Option (List Value)
  | cs, _, [] => some cs
  | _ :: cs, 0, v :: vs => (stL cs 0 vs).map (v :: ·)
  | c :: cs, k + 1, vs => (stL cs k vs).map (c :: ·)
  | [], _, _ :: _ => none

theorem run_storeCells {P : Program} {b : Nat} {e : TypeId} : ∀ (vs : List Value) (off i : Nat) (cs : List Value) (w : World), w.heap[b]? = some (.cells cs.toArray e (0, 0)) → off + i + vs.length ≤ cs.length → (∀ v ∈ vs, v.oneCell' = true) →
    ∃ w', (storeCells ⟨b, off, none⟩ vs i).run P w = .ok () w' ∧ w'.os = w.os ∧ w'.tape = w.tape ∧ w'.output = w.output ∧ w'.heap.size = w.heap.size ∧ (∀ k, k ≠ b → w'.heap[k]? = w.heap[k]?) ∧
      ∃ cs' : List Value, w'.heap[b]? = some (.cells cs'.toArray e (0, 0)) ∧ cs'.length = cs.length ∧ ∀ j : Nat, cs'[j]? = if off + i ≤ j ∧ j < off + i + vs.length then vs[j - (off + i)]? else cs[j]?
  | [], off, i, cs, w, hw, _, _ => ⟨w, rfl, rfl, rfl, rfl, rfl, fun _ _ => rfl, cs, hw, rfl, fun j => by rw [if_neg (by simp only [List.length_nil]; omega)]⟩
  | v :: r, off, i, cs, w, hw, hle, h1 => by
    have hlen : off + i < cs.length := by simp at hle; omega
    have hc : w.cell? ⟨b, off + i, none⟩ = some cs[off + i] := by simp [World.cell?, hw, hlen]
    have hf : w.frozen? ⟨b, off + i, none⟩ = false := frozen_of_row w b (off + i) cs.toArray e hw
    have hst : (store ((⟨b, off, none⟩ : Addr).add i) v).run P w = .ok () (w.setCell ⟨b, off + i, none⟩ v) := by
      rw [add_plain, run_store P w _ v _ (h1 v (by simp))]
      simp [hc, hf]
    have hw1 : (w.setCell ⟨b, off + i, none⟩ v).heap[b]? = some (.cells (cs.set (off + i) v).toArray e (0, 0)) := by
      rw [heap_setCell_same w b (off + i) cs.toArray e v hw]; simp
    obtain ⟨w', hr, g1, g2, g3, g4, g5, cs', g6, g7, g8⟩ := run_storeCells r off (i + 1) (cs.set (off + i) v) (w.setCell ⟨b, off + i, none⟩ v) hw1 (by simp at hle ⊢; omega) (fun u hu => h1 u (by simp [hu]))
    refine ⟨w', ?_, g1, g2, g3, g4.trans (by simp), fun k hk => (g5 k hk).trans (heap_setCell_other w _ k v hk), cs', g6, by simpa using g7, fun j => ?_⟩
    · simp only [storeCells, Sem.run_bind, hst, Result.andThen]; exact hr
    · rw [g8 j]
      by_cases hj : j = off + i
      · subst hj
        rw [if_neg (by omega), if_pos (by simp)]
        simp [hlen]
      · by_cases hin : off + (i + 1) ≤ j ∧ j < off + (i + 1) + r.length
        · rw [if_pos hin, if_pos (by simp; omega)]
          have : j - (off + i) = (j - (off + (i + 1))) + 1 := by omega
          rw [this]; rfl
        · rw [if_neg hin, if_neg (by simp; omega)]
          rw [List.getElem?_set_ne (by omega)]

theorem stL_spec : ∀ (cs : List Value) (off : Nat) (vs cs' : List Value), stL cs off vs = some cs' → off + vs.length ≤ max cs.length (off) ∧ cs'.length = cs.length ∧ (vs ≠ [] → off + vs.length ≤ cs.length) ∧ ∀ j, cs'[j]? = if off ≤ j ∧ j < off + vs.length then vs[j - off]? else cs[j]?
  | cs, off, [], cs', h => by
    have : cs = cs' := by cases cs <;> cases off <;> simpa [stL] using h
    subst this
    exact ⟨by simp; omega, rfl, by simp, fun j => by rw [if_neg (by simp only [List.length_nil]; omega)]⟩
  | [], off, v :: vs, cs', h => by cases off <;> simp [stL] at h
  | c :: cs, 0, v :: vs, cs', h => by
    simp only [stL, Option.map_eq_some_iff] at h
    obtain ⟨r, hr, rfl⟩ := h
    obtain ⟨h1, h2, h3, h4⟩ := stL_spec cs 0 vs r hr
    have hle : vs.length ≤ cs.length := by simpa using h1
    refine ⟨by simp; omega, by simp [h2], fun _ => by simp; omega, fun j => ?_⟩
    cases j with
    | zero => simp
    | succ j =>
      have := h4 j
      simp only [List.getElem?_cons_succ, this]
      by_cases hj : j < vs.length
      · rw [if_pos (by omega), if_pos (by simp; omega)]; simp
      · rw [if_neg (by omega), if_neg (by simp; omega)]
  | c :: cs, k + 1, v :: vs, cs', h => by
    simp only [stL, Option.map_eq_some_iff] at h
    obtain ⟨r, hr, rfl⟩ := h
    obtain ⟨h1, h2, h3, h4⟩ := stL_spec cs k (v :: vs) r hr
    have hle := h3 (by simp)
    simp only [List.length_cons] at hle
    refine ⟨by simp; omega, by simp [h2], fun _ => by simp; omega, fun j => ?_⟩
    cases j with
    | zero => simp
    | succ j =>
      have := h4 j
      simp only [List.getElem?_cons_succ, this]
      by_cases hj : k ≤ j ∧ j < k + (v :: vs).length
      · rw [if_pos hj, if_pos (by omega)]
        congr 1; omega
      · rw [if_neg hj, if_neg (by omega)]

theorem o_store {t e : TypeId} {x y : Operand} {b off n : Nat} {agg : Bool} {cs vs cs' : List Value} {v : Value} {δ' : List Ent} (ht : Ty C.P t agg n) (hx : evS σ x = some (.pointer (some ⟨b, off, none⟩))) (hy : evS σ y = some v)
    (hv : cellsL v = vs) (hvn : Nat.beq vs.length n = true) (h1 : vs.all (·.oneCell') = true) (hh : Swap δ (.box b e cs) δ' (.box b e cs')) (hst : stL cs off vs = some cs') (k : OpsJ C ops Q rest σ ds I δ') :
    OpsJ C ops Q ({ dst := none, op := .store t x y, type := ty, pos := pos, after := after, guard := none } :: rest) σ ds I δ :=
  op_act rfl rfl (by intro c hc; cases hc) (fun a w he hs => by
    obtain ⟨l, r, hl1, hl2⟩ := hh.split
    have hw : w.heap[b]? = some (.cells cs.toArray e (0, 0)) := hs.ents (.box b e cs) (by rw [hl1]; simp)
    obtain ⟨_, h3, h4, h5⟩ := stL_spec _ _ _ _ hst
    have hn : vs.length = n := Nat.eq_of_beq_eq_true hvn
    have hsz : (sizeOf t).run C.P w = .ok n w := by
      have h := ht.size
      cases hq : C.P.info? t with
      | none => simp [hq] at h
      | some i => simp [hq] at h; simp [sizeOf, typeInfo, program, Sem.run, hq, h]
    subst hn
    have hall : ∀ u ∈ vs, u.oneCell' = true := by simpa using h1
    by_cases hnil : vs = []
    · subst hnil
      have : cs' = cs := by cases cs <;> cases off <;> simpa [stL] using hst.symm
      subst this
      refine ⟨w, I, δ', ?_, ?_, ?_, k⟩
      · simp [execOp, he.ev hx, he.ev hy, Instr.storeAt, Instr.sureAddr, storeVar, hsz, cellsL_cells, hv, storeCells]
      · have : δ' = δ := by rw [hl1, hl2]
        rw [this]; exact hs
      · have : δ' = δ := by rw [hl1, hl2]
        rw [this]; exact Tr.refl _ _ _
    · obtain ⟨w', hr, g1, g2, g3, g4, g5, cs2, g6, g7, g8⟩ := run_storeCells (P := C.P) vs off 0 cs w hw (by have := h4 hnil; omega) hall
      have hcs : cs2 = cs' := by
        apply List.ext_getElem?
        intro j
        rw [g8 j, h5 j]
        simp
      subst hcs
      obtain ⟨s', t'⟩ := hs.swap hh g1 g2 g3 (by omega) (fun k _ hk => g5 k (fun e => hk (by rw [e]; rfl))) g6 (fun k hk => .inl hk)
      refine ⟨w', I, δ', ?_, s', t', k⟩
      simp [execOp, he.ev hx, he.ev hy, Instr.storeAt, Instr.sureAddr, storeVar, hsz, cellsL_cells, hv, hr])

/-! ### fields -/
theorem v_field {t : TypeId} {x : Operand} {fs : Array Field} {k : Nat} {f : Field} {a a' : Addr} (ht : C.P.underlying t = some (.struct fs)) (hf : fs[k]? = some f) (hsz : (C.P.info? f.type).map (fun i => Nat.blt 0 i.size) = some true)
    (hx : evS σ x = some (.pointer (some a))) (ha : a.add f.offset = a') :
    ValJ C σ ds I δ (.fieldAddr t x k) (.pointer (some a')) :=
  fun _ _ _ _ _ => (fun ac w he _ => by
    subst ha
    have hu : (underlying t).run C.P w = .ok (.struct fs) w := by simp [underlying, program, Sem.run, ht]
    cases hq : C.P.info? f.type with
    | none => simp [hq] at hsz
    | some i =>
      have hi : ¬ i.size = 0 := by simp [hq, Nat.blt_eq] at hsz; omega
      simp [execOp, he.ev hx, Instr.fieldAt, Instr.sureAddr, hu, hf, fieldPlace, sizeOf, typeInfo, program, Sem.run, hq, hi])

/-! ### immutable rows -/
/-- Cells at an offset of a slice's row. -/
def At (I : Imm) (ad : Option Addr) (m : Nat) (vs : List Value) : Prop := ∀ j v, vs[j]? = some v → I.cellO (ad.map (·.add (m + j))) = some v
theorem At.mono {J : Imm} {ad : Option Addr} {m : Nat} {vs : List Value} (h : At I ad m vs) (hl : I.le J) : At J ad m vs := fun j v hj => Imm.le_cellO hl (h j v hj)
theorem Cells.at {ad : Option Addr} {xs vs : List Value} (h : Cells I ad xs) (m : Nat) (hm : ∀ j v, vs[j]? = some v → xs[m + j]? = some v) : At I ad m vs := fun j v hj => h _ _ (hm j v hj)
theorem At.isSome {ad : Option Addr} {m : Nat} {v : Value} {vs : List Value} (h : At I ad m (v :: vs)) : ad.isSome = true := by
  have := h 0 v rfl
  cases ad with
  | none => simp [Imm.cellO] at this
  | some a => rfl
def pa (ad : Option Addr) (m : Nat) : Value := .pointer (ad.map (·.add m))

theorem add_add (a : Addr) (m k : Nat) : (a.add m).add k = a.add (m + k) := by
  unfold Addr.add
  by_cases h1 : m = 0 <;> by_cases h2 : k = 0 <;> simp [h1, h2, Nat.add_assoc]

theorem v_index {t e : TypeId} {x y : Operand} {ad : Option Addr} {n c i size : Nat} (ht : C.P.underlying t = some (.slice e)) (hsz : (C.P.info? e).map (·.size) = some size)
    (hx : evS σ x = some (.slice ad n c)) (hy : evS σ y = some (.int .i64 (i : Int))) (hi : i < n) (had : ad.isSome = true) :
    ValJ C σ ds I δ (.indexAddr t x y) (pa ad (i * size)) :=
  fun _ _ _ _ _ => (fun a w he _ => by
    have hu : (underlying t).run C.P w = .ok (.slice e) w := by simp [underlying, program, Sem.run, ht]
    obtain ⟨a0, rfl⟩ := Option.isSome_iff_exists.1 had
    cases hq : C.P.info? e with
    | none => simp [hq] at hsz
    | some inf =>
      simp [hq] at hsz
      simp [execOp, he.ev hx, he.ev hy, Instr.indexAt, asIntOf, hu, sizeOf, typeInfo, program, Sem.run, hq, hsz, pa]
      intro hle
      omega)

theorem v_fieldB {t : TypeId} {x : Operand} {fs : Array Field} {k : Nat} {f : Field} {b o : Nat} (q : Nat) (ht : C.P.underlying t = some (.struct fs)) (hf : fs[k]? = some f) (hq : f.offset = q) (hsz : (C.P.info? f.type).map (fun i => Nat.blt 0 i.size) = some true)
    (hx : evS σ x = some (.pointer (some ⟨b, o, none⟩))) : ValJ C σ ds I δ (.fieldAddr t x k) (.pointer (some ⟨b, o + q, none⟩)) := by
  subst hq
  exact v_field ht hf hsz hx (add_plain _ _ _)
theorem v_indexI {t e : TypeId} {x y : Operand} {ad : Option Addr} {n c size : Nat} {i : Int} (ht : C.P.underlying t = some (.slice e)) (hsz : (C.P.info? e).map (·.size) = some size)
    (hx : evS σ x = some (.slice ad n c)) (hy : evS σ y = some (.int .i64 i)) (h0 : 0 ≤ i) (hi : i < n) (had : ad.isSome = true) : ValJ C σ ds I δ (.indexAddr t x y) (pa ad (i.toNat * size)) := by
  obtain ⟨k, rfl⟩ := Int.eq_ofNat_of_zero_le h0
  exact v_index ht hsz hx hy (by omega) had

theorem v_fieldI {t : TypeId} {x : Operand} {fs : Array Field} {k : Nat} {f : Field} {ad : Option Addr} {m : Nat} (q : Nat) (ht : C.P.underlying t = some (.struct fs)) (hf : fs[k]? = some f) (hq : f.offset = q) (hsz : (C.P.info? f.type).map (fun i => Nat.blt 0 i.size) = some true)
    (hx : evS σ x = some (pa ad m)) (had : ad.isSome = true) : ValJ C σ ds I δ (.fieldAddr t x k) (pa ad (m + q)) := by
  obtain ⟨a0, rfl⟩ := Option.isSome_iff_exists.1 had
  subst hq
  exact v_field ht hf hsz hx (add_add a0 m f.offset)

theorem v_loadI {t : TypeId} {x : Operand} {ad : Option Addr} {m k n : Nat} {agg : Bool} {vs : List Value} {v : Value} (ht : Ty C.P t agg n) (hat : At I ad m vs) (hx : evS σ x = some (pa ad (m + k)))
    (hv : ld agg n (vs.drop k) = some v) (hn : Nat.blt 0 n = true) : ValJ C σ ds I δ (.load t x) v :=
  fun _ _ _ _ _ a w he hs => by
    obtain ⟨us, hl, rfl, hu⟩ := ld_spec hv ht.one
    have hn0 : 0 < n := by simpa [Nat.blt_eq] using hn
    have hsome : ad.isSome = true := by
      obtain ⟨u0, hu0⟩ : ∃ u0, us[0]? = some u0 := ⟨us[0]'(by omega), by simp⟩
      have h1 := hu 0 u0 hu0
      simp only [List.getElem?_drop] at h1
      have := hat _ _ h1
      cases ad with
      | none => simp [Imm.cellO] at this
      | some a => rfl
    obtain ⟨a0, rfl⟩ := Option.isSome_iff_exists.1 hsome
    have := run_loadAt ht (w := w) (a := a0.add (m + k)) hl (fun j v hj => by
      rw [add_add]
      have h1 := hu j v hj
      simp only [List.getElem?_drop] at h1
      have h2 := hat _ _ h1
      simp only [Option.map_some, Imm.cellO] at h2
      rw [Nat.add_assoc]
      exact hs.cell h2)
    simp [execOp, he.ev hx, pa, this]

theorem v_loadI0 {t : TypeId} {x : Operand} {ad : Option Addr} {m n : Nat} {agg : Bool} {vs : List Value} {v : Value} (ht : Ty C.P t agg n) (hat : At I ad m vs) (hx : evS σ x = some (pa ad m))
    (hv : ld agg n vs = some v) (hn : Nat.blt 0 n = true) : ValJ C σ ds I δ (.load t x) v :=
  v_loadI (k := 0) ht hat hx hv hn

/-! ### the end of a function -/
/-- What a result variable holds. -/
inductive ResV (P : Program) (σ : Env) (δ : List Ent) : ResultVar → Value → Prop
  | tmp {t : Nat} {v : Value} (h : look t σ = some v) : ResV P σ δ (.tmp t) v
  | cell {a : Nat} {t e : TypeId} {b n : Nat} {agg : Bool} {cs : List Value} {v : Value} (h : look a σ = some (.pointer (some ⟨b, 0, none⟩))) (ht : Ty P t agg n) (hh : Has δ (.box b e cs)) (hv : ld agg n cs = some v) : ResV P σ δ (.cell a t) v

inductive ResL (P : Program) (σ : Env) (δ : List Ent) : List ResultVar → List Value → Prop
  | nil : ResL P σ δ [] []
  | cons {r : ResultVar} {v : Value} {rs : List ResultVar} {vs : List Value} (h : ResV P σ δ r v) (t : ResL P σ δ rs vs) : ResL P σ δ (r :: rs) (v :: vs)

def outV : List Value → Value
  | [v] => v
  | vs => .tuple vs.toArray

theorem ResL.length {P : Program} {rs : List ResultVar} {vs : List Value} (h : ResL P σ δ rs vs) : rs.length = vs.length := by
  induction h with
  | nil => rfl
  | cons _ _ ih => simp [ih]

def resOne (tmps : Array Value) : ResultVar → Sem Value
  | .tmp t => pure (tmps.getD t undef)
  | .cell p t => do loadVar t (← asAddr (tmps.getD p undef))
theorem run_resultsL {P : Program} {n : Nat} {a : Act} {w : World} (he : EnvOK n σ ds a) (hents : ∀ x ∈ δ, x.holds w) {rs : List ResultVar} {vs : List Value} (h : ResL P σ δ rs vs) :
    (rs.mapM (resOne a.tmps)).run P w = .ok vs w := by
  induction h with
  | nil => rfl
  | cons hv _ ih =>
    rename_i r v rs vs _
    have hone : (resOne a.tmps r).run P w = .ok v w := by
      cases hv with
      | tmp h => simp [resOne, he.val _ _ h]
      | cell h ht hh hv =>
        obtain ⟨us, hl, rfl, hu⟩ := ld_spec hv ht.one
        have hb := hents _ hh.mem
        have := run_loadAt ht (P := P) (w := w) hl (fun j v hj => by rw [add_plain, box_cell hb, Nat.zero_add]; exact hu j v hj)
        simp only [Instr.loadAt, Instr.sureAddr, Sem.run_bind, Sem.run_pure, Result.andThen] at this
        simp only [resOne, Array.getD_eq_getD_getElem?, he.val _ _ h, Option.getD_some, asAddr, Sem.run_bind, Sem.run_pure, Result.andThen]
        exact this
    simp only [List.mapM_cons, Sem.run_bind, hone, ih, Result.andThen, Sem.run_pure]

theorem run_results {P : Program} {fn : Func} {n : Nat} {a : Act} {w : World} (he : EnvOK n σ ds a) (hents : ∀ x ∈ δ, x.holds w) {rs : List ResultVar} {vs : List Value} (hf : fn.results = rs.toArray) (h : ResL P σ δ rs vs) :
    (results fn a.tmps).run P w = .ok (outV vs) w := by
  have h1 := run_resultsL (P := P) he hents h
  have h2 : results fn a.tmps = (do let vs ← (rs.toArray).mapM (resOne a.tmps); pure (if h : vs.size = 1 then vs[0] else .tuple vs)) := by
    rw [← hf]
    have : resOne a.tmps = (fun | .tmp t => pure (a.tmps.getD t undef) | .cell p t => do loadVar t (← asAddr (a.tmps.getD p undef))) := by funext r; cases r <;> rfl
    rw [this]
    rfl
  rw [h2]
  simp only [List.mapM_toArray, Sem.run_bind, Sem.run_map, h1, Result.andThen]
  match vs with
  | [] => simp [outV]
  | [v] => simp [outV]
  | _ :: _ :: _ => simp [outV]

def argEnv : Nat → List Value → Env
  | _, [] => []
  | k, v :: r => (k, v) :: argEnv (k + 1) r

theorem argEnv_ok : ∀ (vs : List Value) (k d : Nat) (v : Value), look d (argEnv k vs) = some v → k ≤ d ∧ vs[d - k]? = some v
  | [], _, _, _, h => by simp [argEnv, look] at h
  | u :: r, k, d, v, h => by
    rw [argEnv, look_cons] at h
    by_cases e : k = d
    · subst e; simp at h; subst h; simp
    · simp [e] at h
      obtain ⟨h1, h2⟩ := argEnv_ok r (k + 1) d v h
      refine ⟨by omega, ?_⟩
      have : d - k = (d - (k + 1)) + 1 := by omega
      rw [this]; simpa using h2

/-- The marks that a function leaves with are let go. -/
def MarkEnts (ds : List Nat) : List Ent := ds.map fun r => .obj r (.deferred (some []))

theorem leave_marks {P : Program} {fn : Func} {R : Value → Imm → List Ent → Prop} {w0 : World} {I0 : Imm} {δ0 δ1 : List Ent} {tmps : Array Value} {v : Value} (hsub : δ1.Sublist δ) :
    ∀ (ds : List Nat) (w : World), Sat w I (MarkEnts ds ++ δ) → Tr w0 I0 δ0 w I (MarkEnts ds ++ δ) → (∀ w', (∀ x ∈ δ, x.holds w') → (results fn tmps).run P w' = .ok v w') → R v I δ1 →
      LeavesInM Fence.wide 0 P fn tmps (Ret w0 I0 δ0 R) (marksOf ds) .returning w
  | [], w, hs, ht, hr, hR => ⟨v, hr w (fun x hx => hs.ents x hx), v, I, δ1, rfl, (Sat.sub hs hsub).1, ht.trans (Sat.sub hs hsub).2, hR⟩
  | d :: ds, w, hs, ht, hr, hR => by
    have hd : w.heap[d]? = some (.deferred (some [])) := hs.ents (.obj d (.deferred (some []))) (by simp [MarkEnts])
    have hlt : d < w.heap.size := (Array.getElem?_eq_some_iff.1 hd).1
    have hw1 : (w.putObj d (.deferred none)).heap[d]? = some (.deferred none) := by simp [World.putObj, hlt]
    obtain ⟨s1, t1⟩ := hs.swap (w' := w.putObj d (.deferred none)) (δ' := .obj d (.deferred none) :: (MarkEnts ds ++ δ)) (x := .obj d (.deferred (some []))) (x' := .obj d (.deferred none)) .here rfl rfl rfl (by simp [World.putObj])
      (fun b _ hb => World.putObj_heap_other (fun e => hb (by rw [e]; rfl))) hw1 (fun b hb => .inl hb)
    exact ⟨by simp, .inl ⟨d, _, rfl, run_takeDeferred hd, leave_marks hsub ds _ s1.drop.1 (ht.trans (t1.trans s1.drop.2)) hr hR⟩⟩

/-- A contract out of the body's walk. -/
theorem Does.intro {P : Program} {f : FuncId} {fn : Func} {c : Code} {n : Nat} {args : List Value} {R : Value → Imm → List Ent → Prop} (hf : P.funcs[f]? = some fn) (hb : fn.body = some c) (hn : fn.ntmps = n) (hle : Nat.ble args.length n = true)
    (h : ∀ w0, CodeJ ⟨P, none, n, w0, I, δ⟩ c (bodyPostM Fence.wide 0 P fn (Ret w0 I δ R)) (argEnv 0 args) [] I δ) : Does P f args I δ R := by
  intro w hs
  refine (callsIn_wide (n := 0)).1 (callsIn_of_wp_marks hf hb trivial ?_ rfl)
  have hle' : args.length ≤ n := by simpa [Nat.ble_eq] using hle
  refine h w _ w ⟨by simp [hn]; omega, fun d v hd => ?_, rfl⟩ hs (Tr.refl _ _ _)
  obtain ⟨_, h2⟩ := argEnv_ok args 0 d v hd
  have hlt : d < args.length := (List.getElem?_eq_some_iff.1 (by simpa using h2)).1
  rw [Array.getElem?_append_left (by simpa using hlt)]
  simpa using h2

theorem post_ret {P : Program} {fn : Func} {r : Option Nat} {n : Nat} {w0 : World} {I0 : Imm} {δ0 δ' δ1 : List Ent} {R : Value → Imm → List Ent → Prop} {rs : List ResultVar} {vs : List Value}
    (hf : fn.results = rs.toArray) (hm : δ.Perm (MarkEnts ds ++ δ')) (hv : ResL P σ δ' rs vs) (hsub : δ1.Sublist δ') (hR : R (outV vs) I δ1) :
    PostJ ⟨P, r, n, w0, I0, δ0⟩ (bodyPostM Fence.wide 0 P fn (Ret w0 I0 δ0 R)) .ret σ ds I δ := by
  intro a w he hs ht
  show LeavesInM Fence.wide 0 P fn a.tmps _ a.defers .returning w
  rw [he.defers]
  exact leave_marks hsub ds w (hs.perm hm) (ht.permR hm) (fun w' hw' => run_results he hw' hf hv) hR
theorem post_end {P : Program} {fn : Func} {r : Option Nat} {n : Nat} {w0 : World} {I0 : Imm} {δ0 δ' δ1 : List Ent} {R : Value → Imm → List Ent → Prop} {rs : List ResultVar} {vs : List Value}
    (hf : fn.results = rs.toArray) (hm : δ.Perm (MarkEnts ds ++ δ')) (hv : ResL P σ δ' rs vs) (hsub : δ1.Sublist δ') (hR : R (outV vs) I δ1) :
    PostJ ⟨P, r, n, w0, I0, δ0⟩ (bodyPostM Fence.wide 0 P fn (Ret w0 I0 δ0 R)) .normal σ ds I δ :=
  post_ret (r := r) hf hm hv hsub hR
end Go.Proofs.Ytdbadicpbmndbaa.Lg
/- Regions that draw their order: one walk serves every order. No condition. -/
set_option linter.unusedVariables false
namespace Go.Proofs.Ytdbadicpbmndbaa.Lg
open Go Go.RowKit

variable {C : Ctx} {Q : Exit → Act → World → Prop} {σ : Env} {ds : List Nat} {I : Imm} {δ : List Ent} {ops : Array Oper}

def Looks (ops : Array Oper) (i : Nat) : List Tmp := match ops[i]? with | some o => o.looksAt ops | none => []
def edge (ops : Array Oper) (i j : Nat) : Bool := match ops[j]? with | some o => o.after.any (fun e => Region.binds .any e && e.on == i) | none => false
def cleanFor (ops : Array Oper) (pend : List (Nat × Nat)) (j : Nat) : Bool :=
  pend.all fun p => edge ops p.1 j || !(Looks ops j).contains p.2
def keepsPend (ops : Array Oper) (pend : List (Nat × Nat)) (d : Nat) : Bool :=
  pend.all fun p => !(Looks ops p.1).contains d && p.2 != d
def backs (ops : Array Oper) : Bool :=
  (List.range ops.size).all fun j => match ops[j]? with | some o => o.after.all (fun e => !Region.binds .any e || Nat.blt e.on j) | none => true

/-- An order of a walk: one that only yields a value; one that acts; two that act, in either order. -/
inductive Plan where
  | done
  | fl (i : Nat) (r : Plan)
  | ef (j : Nat) (r : Plan)
  | two (j k : Nat) (r s : Plan)
def effOK (ops : Array Oper) (pend : List (Nat × Nat)) (j : Nat) : Bool :=
  cleanFor ops pend j && (match (ops[j]?).bind (·.dst) with | some d => keepsPend ops (pend.filter fun p => !edge ops p.1 j) d | none => true)
/-- The order of the walk is one that serves. -/
def chk (ops : Array Oper) : Array Bool → List (Nat × Nat) → Plan → Bool
  | listed, _, .done => (List.range ops.size).all (listed.getD · false)
  | listed, pend, .fl i r =>
    match (ops[i]?).bind (·.dst) with
    | some d => !listed.getD i false && cleanFor ops pend i && keepsPend ops pend d && !(Looks ops i).contains d && chk ops (listed.setIfInBounds i true) ((i, d) :: pend) r
    | none => false
  | listed, pend, .ef j r => (Region.ready .any ops listed == [j]) && (effOK ops pend j && chk ops (listed.setIfInBounds j true) (pend.filter fun p => !edge ops p.1 j) r)
  | listed, pend, .two j k r s => (Region.ready .any ops listed == [j, k]) && ((effOK ops pend j && chk ops (listed.setIfInBounds j true) (pend.filter fun p => !edge ops p.1 j) r) &&
      (effOK ops pend k && chk ops (listed.setIfInBounds k true) (pend.filter fun p => !edge ops p.1 k) s))

/-- Some slots are not there yet. -/
structure Part (n : Nat) (σ : Env) (ds : List Nat) (D : List Nat) (a : Act) : Prop where
  size : a.tmps.size = n
  defers : a.defers = marksOf ds
  val : ∀ d v, look d σ = some v → d ∉ D → a.tmps[d]? = some v
  lt : ∀ d ∈ D, d < n

structure Compl (D : List Nat) (a b : Act) : Prop where
  size : b.tmps.size = a.tmps.size
  defers : b.defers = a.defers
  same : ∀ t, t ∉ D → b.tmps[t]? = a.tmps[t]?

theorem Part.complete {n : Nat} {D : List Nat} {a : Act} (h : Part n σ ds D a) : ∃ b, EnvOK n σ ds b ∧ Compl D a b := by
  refine ⟨{ tmps := a.tmps.mapIdx fun i x => if i ∈ D then (look i σ).getD x else x, defers := a.defers }, ⟨by simp [h.size], fun d v hd => ?_, h.defers⟩, ⟨by simp, rfl, fun t ht => by simp [Array.getElem?_mapIdx, ht]⟩⟩
  by_cases hD : d ∈ D
  · have hlt : d < a.tmps.size := by rw [h.size]; exact h.lt d hD
    simp [hD, hd, hlt]
  · simp [Array.getElem?_mapIdx, hD, h.val d v hd hD]

theorem Compl.back {n : Nat} {D : List Nat} {a b : Act} (h : EnvOK n σ ds b) (hc : Compl D a b) (hD : ∀ d ∈ D, d < n) : Part n σ ds D a :=
  ⟨hc.size.symm.trans h.size, hc.defers.symm.trans h.defers, fun d v hd hn => (hc.same d hn).symm.trans (h.val d v hd), hD⟩

theorem Compl.put {D : List Nat} {a b : Act} (h : Compl D a b) {d : Option Nat} (v : Value) : Compl D (a.put d v) (b.put d v) := by
  cases d with
  | none => exact h
  | some d =>
    refine ⟨by simp [Act.put, h.size], h.defers, fun t ht => ?_⟩
    by_cases e : d = t
    · subst e
      simp only [Act.put, Array.getElem?_setIfInBounds]
      simp [h.size]
    · simp [Act.put, Array.getElem?_setIfInBounds_ne e, h.same t ht]

theorem Compl.eval {D : List Nat} {a b : Act} (h : Compl D a b) {x : Operand} (hx : ∀ t, x = .tmp t → t ∉ D) : b.eval x = a.eval x := by
  cases x with
  | tmp t => simp [Act.eval, h.same t (hx t rfl)]
  | _ => rfl

theorem Compl.exec {D : List Nat} {a b : Act} (h : Compl D a b) {o : Oper} (hs : ∀ cs b, o.op ≠ .select cs b) (hx : ∀ t ∈ o.looksAt ops, t ∉ D) : execOp b.eval o = execOp a.eval o :=
  execOp_congr o hs fun x hxm => h.eval fun t e => hx t (by
    subst e
    exact List.mem_append_left _ (List.mem_filterMap.2 ⟨.tmp t, by simpa using hxm, rfl⟩))

theorem Compl.wanted {D : List Nat} {a b : Act} (h : Compl D a b) {o : Oper} (hx : ∀ t ∈ o.looksAt ops, t ∉ D) : Region.wanted o (yielded ops b.tmps) = Region.wanted o (yielded ops a.tmps) := by
  unfold Region.wanted
  cases hg : o.guard with
  | none => rfl
  | some gw =>
    obtain ⟨g, want⟩ := gw
    have hy : yielded ops b.tmps g = yielded ops a.tmps g := by
      unfold yielded
      cases ht : (ops[g]?).bind (·.dst) with
      | none => rfl
      | some t =>
        have : t ∉ D := hx t (by simp [Oper.looksAt, hg, ht])
        simp [h.same t this]
    simp only [hy]

/-- nowhere but at the end -/
def NoQ : Exit → Act → World → Prop := fun _ _ _ => False

/-- What the operation does is the same if slots that it does not look at are filled. -/
theorem wpOp_compl {D : List Nat} {a b : Act} {w : World} {K : Act → World → Prop} {o : Oper} {j : Nat} (ho : ops[j]? = some o) (h : Compl D a b) (hs : ∀ cs b, o.op ≠ .select cs b) (hd : ∀ c, o.op ≠ .defer c)
    (hx : ∀ t ∈ o.looksAt ops, t ∉ D) (hw : wpListIn C.F 0 C.P ops (Exit.then K NoQ) [o] b w) : wpOpIn C.F 0 C.P ops Q j (fun a' w' => ∃ b', Compl D a' b' ∧ K b' w') a w := by
  simp only [wpListIn] at hw
  unfold wpOpIn
  simp only [ho]
  rw [h.wanted hx] at hw
  split
  · rename_i hwt
    rw [if_pos hwt] at hw
    unfold Oper.wpIn at *
    refine ⟨fun _ _ => trivial, ?_⟩
    have hw2 := hw.2
    rw [semAt_eq _ _ _ hd] at hw2 ⊢
    rw [h.exec hs hx] at hw2
    have lets : LetsOut (Exit.then K NoQ) → LetsOut Q := fun ⟨_, _, h⟩ => h.elim
    generalize (execOp a.eval o).run C.P w = r at *
    cases r with
    | ok n w' =>
      cases n <;> simp only [Oper.uponIn] at hw2 ⊢
      case value v => exact ⟨_, h.put v, hw2⟩
      case skip => exact ⟨_, h.put _, hw2⟩
      case defer d => exact ⟨_, (show Compl D { a with defers := d :: a.defers } { b with defers := d :: b.defers } from ⟨h.size, by simp [h.defers], h.same⟩).put _, hw2⟩
      case enter f args =>
        refine ⟨hw2.1, hw2.2.mono fun e w'' he => ?_⟩
        cases e with
        | returned v => exact ⟨_, h.put v, he⟩
        | panicked c => exact he.elim
        | outgrown => exact lets he
      case row row args => exact ⟨hw2.1, hw2.2.mono fun v w'' he => ⟨_, h.put v, he⟩⟩
      case round l f tmps ars body =>
        refine ⟨hw2.1, hw2.2.mono fun e w'' he => ?_⟩
        cases e with
        | returned v => exact ⟨_, h.put v, he⟩
        | panicked c => exact he.elim
        | outgrown => exact lets he
    | halt x w' =>
      cases x <;> simp only [Oper.uponIn] at hw2 ⊢
      case panic v => exact hw2.elim
  · rename_i hwt
    rw [if_neg hwt] at hw
    exact ⟨fun _ _ => trivial, _, h.put _, hw.2⟩

/-- A value that may be taken at any time in the region: what it looks at is there, the heap's part is kept. -/
def PF (C : Ctx) (ops : Array Oper) (Ib : Imm) (keep : List Ent) (σ : Env) (ds : List Nat) (i d : Nat) (v : Value) : Prop :=
  ∃ o, ops[i]? = some o ∧ o.dst = some d ∧ look d σ = some v ∧ d ∉ o.looksAt ops ∧ ∀ D a w, Part C.n σ ds D a → (∀ t ∈ o.looksAt ops, t ∉ D) → Sat w Ib keep →
    (∀ c, o.op ≠ .defer c) ∧ ((Region.wanted o (yielded ops a.tmps) = true ∧ (execOp a.eval o).run C.P w = .ok (.value v) w) ∨ (Region.wanted o (yielded ops a.tmps) = false ∧ v = undef))

theorem ValJ.noselect {op : Op} {v : Value} (h : ValJ C σ ds I δ op v) {a : Act} {w : World} (he : EnvOK C.n σ ds a) (hs : Sat w I δ) : ∀ cs b, op ≠ .select cs b := by
  intro cs b hc
  subst hc
  have := h none 0 "" #[] none a w he hs
  simp only [execOp, Sem.run_bind] at this
  generalize (Array.mapM _ cs : Sem _).run C.P w = r at this
  cases r <;> simp at this

/-- one more slot -/
theorem Part.less {n d : Nat} {u : Value} {D : List Nat} {a : Act} (h : Part n ((d, u) :: σ) ds D a) (hd : d < n) : Part n σ ds (d :: D) a :=
  ⟨h.size, h.defers, fun t v ht hn => h.val t v (by
    rw [look_cons, if_neg (fun e => hn (by simp [e]))]; exact ht) (fun hm => hn (List.mem_cons_of_mem _ hm)), fun t ht => by
    rcases List.mem_cons.1 ht with rfl | ht
    · exact hd
    · exact h.lt t ht⟩

theorem Part.ltOf {n d : Nat} {u : Value} {D : List Nat} {a : Act} (h : Part n ((d, u) :: σ) ds D a) : d < n := by
  by_cases hm : d ∈ D
  · exact h.lt d hm
  · have := h.val d u (by simp [look_cons]) hm
    rw [← h.size]
    exact (Array.getElem?_eq_some_iff.1 this).1

theorem PF.ext {Ib : Imm} {keep : List Ent} {i d d' : Nat} {v u : Value} (h : PF C ops Ib keep σ ds i d v) (hd : d' ∉ Looks ops i) (hne : d ≠ d') : PF C ops Ib keep ((d', u) :: σ) ds i d v := by
  obtain ⟨o, h1, h2, h3, h4, h5⟩ := h
  have hL : Looks ops i = o.looksAt ops := by simp [Looks, h1]
  refine ⟨o, h1, h2, by rw [look_cons, if_neg (fun e => hne e.symm)]; exact h3, h4, fun D a w hp hx hs => ?_⟩
  exact h5 (d' :: D) a w (hp.less hp.ltOf) (fun t ht hm => by
    rcases List.mem_cons.1 hm with rfl | hm
    · exact hd (hL ▸ ht)
    · exact hx t ht hm) hs

theorem PF.mk {Ib : Imm} {keep : List Ent} {i d : Nat} {v : Value} {op : Op} {ty : TypeId} {pos : String} {after : Array Edge} (ho : ops[i]? = some { dst := some d, op := op, type := ty, pos := pos, after := after, guard := none })
    (h : ValJ C σ ds Ib keep op v) (hd : d ∉ Looks ops i) : PF C ops Ib keep ((d, v) :: σ) ds i d v := by
  have hL : Looks ops i = Oper.looksAt ops { dst := some d, op := op, type := ty, pos := pos, after := after, guard := none } := by simp [Looks, ho]
  refine ⟨_, ho, rfl, by simp [look_cons], hL ▸ hd, fun D a w hp hx hs => ?_⟩
  have hp' := hp.less hp.ltOf
  obtain ⟨b, hb, hc⟩ := hp'.complete
  have hx' : ∀ t ∈ Oper.looksAt ops { dst := some d, op := op, type := ty, pos := pos, after := after, guard := none }, t ∉ d :: D := fun t ht hm => by
    rcases List.mem_cons.1 hm with rfl | hm
    · exact hd (hL ▸ ht)
    · exact hx t ht hm
  refine ⟨h.nodefer hb hs, .inl ⟨by simp [Region.wanted], ?_⟩⟩
  rw [← hc.exec (h.noselect hb hs) hx']
  exact h _ _ _ _ _ b w hb hs

theorem PF.mkg {Ib : Imm} {keep : List Ent} {i d j t : Nat} {b : Bool} {v : Value} {op : Op} {ty : TypeId} {pos : String} {after : Array Edge} (ho : ops[i]? = some { dst := some d, op := op, type := ty, pos := pos, after := after, guard := some (j, b) })
    (hj : (ops[j]?).bind (·.dst) = some t) (hv : look t σ = some (.bool b)) (h : ValJ C σ ds Ib keep op v) (hd : d ∉ Looks ops i) : PF C ops Ib keep ((d, v) :: σ) ds i d v := by
  have hL : Looks ops i = Oper.looksAt ops { dst := some d, op := op, type := ty, pos := pos, after := after, guard := some (j, b) } := by simp [Looks, ho]
  refine ⟨_, ho, rfl, by simp [look_cons], hL ▸ hd, fun D a w hp hx hs => ?_⟩
  have hp' := hp.less hp.ltOf
  obtain ⟨b', hb, hc⟩ := hp'.complete
  have hx' : ∀ t ∈ Oper.looksAt ops { dst := some d, op := op, type := ty, pos := pos, after := after, guard := some (j, b) }, t ∉ d :: D := fun t ht hm => by
    rcases List.mem_cons.1 hm with rfl | hm
    · exact hd (hL ▸ ht)
    · exact hx t ht hm
  refine ⟨h.nodefer hb hs, .inl ⟨?_, ?_⟩⟩
  · rw [← hc.wanted hx']
    simp [Region.wanted, yielded, hj, hb.val t _ hv]
  · rw [← hc.exec (h.noselect hb hs) hx']
    exact h _ _ _ _ _ b' w hb hs

theorem PF.mks {Ib : Imm} {keep : List Ent} {i d j t : Nat} {b : Bool} {u : Value} {op : Op} {ty : TypeId} {pos : String} {after : Array Edge} (ho : ops[i]? = some { dst := some d, op := op, type := ty, pos := pos, after := after, guard := some (j, b) })
    (hop : ∀ c, op ≠ .defer c) (hj : (ops[j]?).bind (·.dst) = some t) (hv : look t σ = some u) (hne : u ≠ .bool b) (hd : d ∉ Looks ops i) : PF C ops Ib keep ((d, undef) :: σ) ds i d undef := by
  have hL : Looks ops i = Oper.looksAt ops { dst := some d, op := op, type := ty, pos := pos, after := after, guard := some (j, b) } := by simp [Looks, ho]
  refine ⟨_, ho, rfl, by simp [look_cons], hL ▸ hd, fun D a w hp hx hs => ⟨hop, .inr ⟨?_, rfl⟩⟩⟩
  have hp' := hp.less hp.ltOf
  obtain ⟨b', hb, hc⟩ := hp'.complete
  have hx' : ∀ t ∈ Oper.looksAt ops { dst := some d, op := op, type := ty, pos := pos, after := after, guard := some (j, b) }, t ∉ d :: D := fun t ht hm => by
    rcases List.mem_cons.1 hm with rfl | hm
    · exact hd (hL ▸ ht)
    · exact hx t ht hm
  rw [← hc.wanted hx']
  have : (yielded ops b'.tmps j == some b) = false := by
    simp only [yielded, hj, Option.bind_some, hb.val t _ hv]
    cases u <;> simp_all
  simp [Region.wanted, this]

/-! ### how many are left -/
def remain (ops : Array Oper) (listed : Array Bool) : Nat := ((List.range ops.size).filter fun j => !listed.getD j false).length

theorem filter_lt {α : Type} {p q : α → Bool} : ∀ (l : List α), (∀ x ∈ l, q x = true → p x = true) → (∃ x ∈ l, p x = true ∧ q x = false) → (l.filter q).length < (l.filter p).length
  | [], _, ⟨x, hx, _⟩ => by cases hx
  | y :: l, h1, h2 => by
    have hle : ∀ m : List α, (∀ x ∈ m, q x = true → p x = true) → (m.filter q).length ≤ (m.filter p).length := by
      intro m
      induction m with
      | nil => simp
      | cons z m ih =>
        intro h
        have := ih (fun x hx => h x (List.mem_cons_of_mem _ hx))
        have hz := h z (List.mem_cons_self ..)
        cases hq : q z <;> cases hp : p z <;> simp_all <;> omega
    have hl := hle l (fun x hx => h1 x (List.mem_cons_of_mem _ hx))
    have hy := h1 y (List.mem_cons_self ..)
    cases hq : q y <;> cases hp : p y
    · obtain ⟨x, hx, hx1, hx2⟩ := h2
      rcases List.mem_cons.1 hx with rfl | hx
      · rw [hp] at hx1; cases hx1
      · simpa [hq, hp] using filter_lt l (fun x hx => h1 x (List.mem_cons_of_mem _ hx)) ⟨x, hx, hx1, hx2⟩
    · simp [hq, hp]; omega
    · rw [hq, hp] at hy; simp at hy
    · obtain ⟨x, hx, hx1, hx2⟩ := h2
      rcases List.mem_cons.1 hx with rfl | hx
      · rw [hq] at hx2; cases hx2
      · simpa [hq, hp] using filter_lt l (fun x hx => h1 x (List.mem_cons_of_mem _ hx)) ⟨x, hx, hx1, hx2⟩

theorem getD_set {listed : Array Bool} {i j : Nat} (hi : i < listed.size) : (listed.setIfInBounds i true).getD j false = if i = j then true else listed.getD j false := by
  by_cases h : i = j
  · subst h; simp [hi]
  · simp [h, Array.getElem?_setIfInBounds_ne h]

theorem remain_set {listed : Array Bool} {i : Nat} (hs : listed.size = ops.size) (hi : i < ops.size) (hu : listed.getD i false = false) : remain ops (listed.setIfInBounds i true) < remain ops listed := by
  unfold remain
  refine filter_lt _ (fun x _ hx => ?_) ⟨i, List.mem_range.2 hi, by simp only [hu]; rfl, by rw [getD_set (by omega)]; simp⟩
  rw [getD_set (by omega)] at hx
  split at hx
  · simp at hx
  · exact hx

theorem ready_nil {listed : Array Bool} (hb : backs ops = true) (hs : listed.size = ops.size) (hr : Region.ready .any ops listed = []) : ∀ j, j < ops.size → listed.getD j false = true := by
  intro j
  induction j using Nat.strongRecOn with
  | _ j ih =>
    intro hj
    cases hl : listed.getD j false with
    | true => rfl
    | false =>
      exfalso
      have hm : j ∈ Region.ready .any ops listed := by
        rw [mem_ready]
        have ho : ops[j]? = some ops[j] := by simp [hj]
        refine ⟨?_, _, ho, fun e he hbe => ?_⟩
        · have : listed.getD j true = listed.getD j false := by simp [hs, hj]
          rw [this]; exact hl
        · have h1 := List.all_eq_true.1 hb j (List.mem_range.2 hj)
          rw [ho] at h1
          have h2 := Array.all_eq_true_iff_forall_mem.1 h1 e he
          simp only [hbe, Bool.not_true, Bool.false_or, Nat.blt_eq] at h2
          exact ih e.on h2 (by omega)
      rw [hr] at hm
      cases hm

/-! ### the walk -/
abbrev Pend := List (Nat × Nat × Value)
/-- What is asked of what is pending. -/
def Side (Ib I : Imm) (keep : Nat → List Ent) (pend : Pend) (δ : List Ent) : Prop := ∀ p ∈ pend, Ib.le I ∧ ∀ x ∈ keep p.1, x ∈ δ
def idx (pend : Pend) : List (Nat × Nat) := pend.map fun p => (p.1, p.2.1)

structure EJ (C : Ctx) (ops : Array Oper) (Q : Exit → Act → World → Prop) (Ib : Imm) (keep : Nat → List Ent) (ord : Plan) (pend : Pend) (listed : Array Bool) (σ : Env) (ds : List Nat) (I : Imm) (δ : List Ent) : Prop where
  run : backs ops = true → listed.size = ops.size → chk ops listed (idx pend) ord = true → (∀ i, (blks (keep i)).Nodup) → (∀ p ∈ pend, PF C ops Ib (keep p.1) σ ds p.1 p.2.1 p.2.2) → (∀ p ∈ pend, Ib.le I ∧ ∀ x ∈ keep p.1, x ∈ δ) → (∀ p ∈ pend, ∀ q ∈ pend, edge ops q.1 p.1 = true ∨ q.2.1 ∉ Looks ops p.1) → (∀ p ∈ pend, listed.getD p.1 false = true) →
    ∀ (U : Pend) (l : Array Bool) (fuel : Nat) (a : Act) (w : World), (∀ p ∈ U, p ∈ pend) → l.size = ops.size → (∀ j, l.getD j false = true ↔ listed.getD j false = true ∧ ∀ p ∈ U, p.1 ≠ j) → remain ops l ≤ fuel →
      Part C.n σ ds (U.map (·.2.1)) a → Sat w I δ → Tr C.w0 C.I0 C.δ0 w I δ → wpAnyIn C.F 0 C.P .any ops Q fuel l a w

theorem Sat.weak {w : World} {Ib : Imm} {keep : List Ent} (h : Sat w I δ) (hl : Ib.le I) (hk : ∀ x ∈ keep, x ∈ δ) (hn : (blks keep).Nodup) : Sat w Ib keep :=
  ⟨fun b o hb => h.imm b o (hl b o hb), fun x hx => h.ents x (hk x hx), hn, fun b hb => by
    obtain ⟨x, hx, hxb⟩ := List.mem_filterMap.1 hb
    have h1 := h.apart b (List.mem_filterMap.2 ⟨x, hk x hx, hxb⟩)
    cases h2 : Ib b with
    | none => rfl
    | some o => rw [hl b o h2] at h1; cases h1⟩

/-- What is pending comes up whenever it likes. -/
theorem EJ.of_main {Ib : Imm} {keep : Nat → List Ent} {ord : Plan} {pend : Pend} {listed : Array Bool}
    (hend : backs ops = true → listed.size = ops.size → chk ops listed (idx pend) ord = true → (∀ j, j < ops.size → listed.getD j false = true) → ∀ a w, EnvOK C.n σ ds a → Sat w I δ → Tr C.w0 C.I0 C.δ0 w I δ → Q .normal a w)
    (hmain : backs ops = true → listed.size = ops.size → chk ops listed (idx pend) ord = true → (∀ i, (blks (keep i)).Nodup) → (∀ p ∈ pend, PF C ops Ib (keep p.1) σ ds p.1 p.2.1 p.2.2) → (∀ p ∈ pend, Ib.le I ∧ ∀ x ∈ keep p.1, x ∈ δ) → (∀ p ∈ pend, ∀ q ∈ pend, edge ops q.1 p.1 = true ∨ q.2.1 ∉ Looks ops p.1) → (∀ p ∈ pend, listed.getD p.1 false = true) →
      ∀ j ∈ Region.ready .any ops listed, ∀ (U : Pend) (l : Array Bool) (fuel : Nat) (a : Act) (w : World), (∀ p ∈ U, p ∈ pend) → l.size = ops.size → (∀ j, l.getD j false = true ↔ listed.getD j false = true ∧ ∀ p ∈ U, p.1 ≠ j) → remain ops l ≤ fuel + 1 →
      j ∈ Region.ready .any ops l → Part C.n σ ds (U.map (·.2.1)) a → Sat w I δ → Tr C.w0 C.I0 C.δ0 w I δ → wpOpIn C.F 0 C.P ops Q j (wpAnyIn C.F 0 C.P .any ops Q fuel (l.setIfInBounds j true)) a w) :
    EJ C ops Q Ib keep ord pend listed σ ds I δ := by
  refine ⟨fun hb hsz hchk hnd hpf hk hcl hli => ?_⟩
  have nilcase : ∀ (U : Pend) (l : Array Bool) (a : Act) (w : World), (∀ p ∈ U, p ∈ pend) → l.size = ops.size → (∀ j, l.getD j false = true ↔ listed.getD j false = true ∧ ∀ p ∈ U, p.1 ≠ j) →
      Part C.n σ ds (U.map (·.2.1)) a → Sat w I δ → Tr C.w0 C.I0 C.δ0 w I δ → Region.ready .any ops l = [] → Q .normal a w := by
    intro U l a w hU hl hrel hp hs ht hr
    have hall := ready_nil hb hl hr
    have hUnil : U = [] := by
      cases U with
      | nil => rfl
      | cons p U =>
        exfalso
        obtain ⟨o, ho, _⟩ := hpf p (hU p (List.mem_cons_self ..))
        have hlt : p.1 < ops.size := (Array.getElem?_eq_some_iff.1 ho).1
        exact ((hrel p.1).1 (hall p.1 hlt)).2 p (List.mem_cons_self ..) rfl
    subst hUnil
    refine hend hb hsz hchk (fun j hj => ((hrel j).1 (hall j hj)).1) a w ⟨hp.size, fun d v hd => hp.val d v hd (by simp), hp.defers⟩ hs ht
  intro U l fuel
  induction fuel generalizing U l with
  | zero =>
    intro a w hU hl hrel hfuel hp hs ht
    have hr : Region.ready .any ops l = [] := by
      cases hr : Region.ready .any ops l with
      | nil => rfl
      | cons j rs =>
        exfalso
        have hm : j ∈ Region.ready .any ops l := by rw [hr]; exact List.mem_cons_self ..
        obtain ⟨h0, o, ho, _⟩ := mem_ready.1 hm
        have hlt : j < ops.size := (Array.getElem?_eq_some_iff.1 ho).1
        have : l.getD j false = false := by
          have : l.getD j true = l.getD j false := by simp [hl, hlt]
          rw [← this]; exact h0
        have := remain_set hl hlt this
        omega
    exact ⟨hr, nilcase U l a w hU hl hrel hp hs ht hr⟩
  | succ fuel ih =>
    intro a w hU hl hrel hfuel hp hs ht
    refine ⟨nilcase U l a w hU hl hrel hp hs ht, fun i hi => ?_⟩
    obtain ⟨h0, o, ho, hpre⟩ := mem_ready.1 hi
    have hlt : i < ops.size := (Array.getElem?_eq_some_iff.1 ho).1
    have hul : l.getD i false = false := by
      have : l.getD i true = l.getD i false := by simp [hl, hlt]
      rw [← this]; exact h0
    by_cases hin : ∃ p ∈ U, p.1 = i
    · obtain ⟨p, hpU, rfl⟩ := hin
      obtain ⟨o', ho', hdst, hlook, hself, hrun⟩ := hpf p (hU p hpU)
      have : o' = o := by rw [ho] at ho'; exact (Option.some.inj ho').symm
      subst this
      have hL : Looks ops p.1 = o'.looksAt ops := by simp [Looks, ho]
      -- what it looks at is there
      have hclean : ∀ t ∈ o'.looksAt ops, t ∉ U.map (·.2.1) := by
        intro t htl htm
        obtain ⟨q, hqU, rfl⟩ := List.mem_map.1 htm
        rcases hcl p (hU p hpU) q (hU q hqU) with he | hn
        · simp only [edge, ho] at he
          obtain ⟨e, hem, hee⟩ := Array.any_eq_true'.1 he
          simp only [Bool.and_eq_true, beq_iff_eq] at hee
          have := hpre e hem hee.1
          rw [hee.2] at this
          exact ((hrel q.1).1 this).2 q hqU rfl
        · exact hn (hL ▸ htl)
      have hkp := hk p (hU p hpU)
      obtain ⟨hnd', hyes⟩ := hrun _ a w hp hclean (hs.weak hkp.1 hkp.2 (hnd p.1))
      -- behind it
      have hnext : wpAnyIn C.F 0 C.P .any ops Q fuel (l.setIfInBounds p.1 true) (a.put (some p.2.1) p.2.2) w := by
        refine ih (U.filter fun q => q.1 != p.1) _ _ _ (fun q hq => hU q (List.mem_filter.1 hq).1) (by simpa using hl) (fun j => ?_) (by have := remain_set hl hlt hul; omega) ⟨by simp [Act.put, hp.size], by simpa [Act.put] using hp.defers, fun t u ht hn => ?_, fun t ht => ?_⟩ hs ht
        · rw [getD_set (by omega)]
          by_cases hj : p.1 = j
          · subst hj
            simp only [if_true, true_iff]
            exact ⟨hli p (hU p hpU), fun q hq e => by have := (List.mem_filter.1 hq).2; simp [e] at this⟩
          · rw [if_neg hj, hrel j]
            refine ⟨fun ⟨h1, h2⟩ => ⟨h1, fun q hq => h2 q (List.mem_filter.1 hq).1⟩, fun ⟨h1, h2⟩ => ⟨h1, fun q hq e => ?_⟩⟩
            exact h2 q (List.mem_filter.2 ⟨hq, by simp only [bne_iff_ne, ne_eq]; intro e'; exact hj (e'.symm.trans e)⟩) e
        · have hdlt : p.2.1 < a.tmps.size := by rw [hp.size]; exact hp.lt _ (List.mem_map_of_mem hpU)
          by_cases hd : p.2.1 = t
          · subst hd
            rw [hlook] at ht
            cases ht
            simp [Act.put, hdlt]
          · have hold : a.tmps[t]? = some u := hp.val t u ht (fun hm => by
              obtain ⟨q, hqU, hqt⟩ := List.mem_map.1 hm
              by_cases hq1 : q.1 = p.1
              · obtain ⟨o2, ho2, hd2, _⟩ := hpf q (hU q hqU)
                rw [hq1, ho] at ho2
                cases ho2
                rw [hdst] at hd2
                exact hd (by rw [← hqt]; exact Option.some.inj hd2)
              · exact hn (List.mem_map.2 ⟨q, List.mem_filter.2 ⟨hqU, by simpa using hq1⟩, hqt⟩))
            simp [Act.put, Array.getElem?_setIfInBounds_ne hd, hold]
        · obtain ⟨q, hq, rfl⟩ := List.mem_map.1 ht
          exact hp.lt _ (List.mem_map_of_mem (List.mem_filter.1 hq).1)
      unfold wpOpIn
      simp only [ho]
      rcases hyes with ⟨hw1, hr1⟩ | ⟨hw0, hv0⟩
      · rw [if_pos hw1]
        unfold Oper.wpIn
        refine ⟨fun _ _ => trivial, ?_⟩
        rw [semAt_eq _ _ _ hnd', hr1, Oper.uponIn_value, hdst]
        exact hnext
      · rw [if_neg (by simp [hw0])]
        refine ⟨fun _ _ => trivial, ?_⟩
        rw [hdst, ← hv0]
        exact hnext
    · have hnl : listed.getD i false = false := by
        cases hc : listed.getD i false with
        | false => rfl
        | true =>
          have := (hrel i).2 ⟨hc, fun p hp e => hin ⟨p, hp, e⟩⟩
          rw [hul] at this; cases this
      refine hmain hb hsz hchk hnd hpf hk hcl hli i ?_ U l fuel a w hU hl hrel hfuel hi hp hs ht
      rw [mem_ready]
      refine ⟨by have : listed.getD i true = listed.getD i false := by simp [hsz, hlt]
                 rw [this]; exact hnl, o, ho, fun e he hbe => ((hrel e.on).1 (hpre e he hbe)).1⟩

/-- All have come up. -/
theorem e_done {Ib : Imm} {keep : Nat → List Ent} {pend : Pend} {listed : Array Bool} (h : PostJ C Q .normal σ ds I δ) : EJ C ops Q Ib keep .done pend listed σ ds I δ := by
  refine EJ.of_main (fun _ _ _ _ a w he hs ht => h a w he hs ht) ?_
  intro _ hsz hchk _ _ _ _ _ j hj
  exfalso
  obtain ⟨h0, o, ho, _⟩ := mem_ready.1 hj
  have hlt : j < ops.size := (Array.getElem?_eq_some_iff.1 ho).1
  have h1 := List.all_eq_true.1 hchk j (List.mem_range.2 hlt)
  have h2 : listed.getD j true = listed.getD j false := by simp [hsz, hlt]
  rw [h2] at h0
  have h3 : listed.getD j false = true := h1
  rw [h3] at h0
  cases h0

/-- One that only yields a value. -/
theorem e_float {Ib : Imm} {keep : Nat → List Ent} {ord : Plan} {pend : Pend} {listed : Array Bool} {i d : Nat} {v : Value} (hdst : (ops[i]?).bind (·.dst) = some d) (hd : Nat.blt d C.n = true) (hpf : d ∉ Looks ops i → PF C ops Ib (keep i) ((d, v) :: σ) ds i d v) (hkeep : Ib.le I) (hsub : ∀ x ∈ keep i, x ∈ δ)
    (k : EJ C ops Q Ib keep ord ((i, d, v) :: pend) (listed.setIfInBounds i true) ((d, v) :: σ) ds I δ) : EJ C ops Q Ib keep (.fl i ord) pend listed σ ds I δ := by
  refine ⟨fun hb hsz hchk hnd hpfs hk hcl hli => ?_⟩
  simp only [chk, hdst, Bool.and_eq_true, Bool.not_eq_eq_eq_not, Bool.not_true] at hchk
  obtain ⟨⟨⟨⟨hul, hcf⟩, hkp⟩, hself⟩, hnext⟩ := hchk
  have hself' : d ∉ Looks ops i := by simpa using hself
  have hi : i < ops.size := by
    cases ho : ops[i]? with
    | none => simp [ho] at hdst
    | some o => exact (Array.getElem?_eq_some_iff.1 ho).1
  have hkp' : ∀ p ∈ pend, d ∉ Looks ops p.1 ∧ p.2.1 ≠ d := fun p hp => by
    have := List.all_eq_true.1 hkp (p.1, p.2.1) (List.mem_map_of_mem (f := fun p : Nat × Nat × Value => (p.1, p.2.1)) hp)
    simpa using this
  have hcf' : ∀ p ∈ pend, edge ops p.1 i = true ∨ p.2.1 ∉ Looks ops i := fun p hp => by
    have := List.all_eq_true.1 hcf (p.1, p.2.1) (List.mem_map_of_mem (f := fun p : Nat × Nat × Value => (p.1, p.2.1)) hp)
    simpa using this
  have hk' := k.run hb (by simpa using hsz) hnext hnd (fun p hp => by
      rcases List.mem_cons.1 hp with rfl | hp
      · exact hpf hself'
      · exact (hpfs p hp).ext (hkp' p hp).1 (hkp' p hp).2) (fun p hp => by
      rcases List.mem_cons.1 hp with rfl | hp
      · exact ⟨hkeep, hsub⟩
      · exact hk p hp)
    (fun p hp q hq => by
      rcases List.mem_cons.1 hp with rfl | hp <;> rcases List.mem_cons.1 hq with rfl | hq
      · exact .inr hself'
      · exact hcf' q hq
      · exact .inr (hkp' p hp).1
      · exact hcl p hp q hq)
    (fun p hp => by
      rw [getD_set (by omega)]
      split
      · rfl
      · rcases List.mem_cons.1 hp with rfl | hp
        · rename_i hne; exact absurd rfl hne
        · exact hli p hp)
  intro U l fuel a w hU hl hrel hfuel hp hs ht
  have hdn : d < C.n := by simpa [Nat.blt_eq] using hd
  refine hk' ((i, d, v) :: U) l fuel a w (fun p hp => ?_) hl (fun j => ?_) hfuel ⟨hp.size, hp.defers, fun t u htl hn => ?_, fun t htm => ?_⟩ hs ht
  · rcases List.mem_cons.1 hp with rfl | hp
    · exact List.mem_cons_self ..
    · exact List.mem_cons_of_mem _ (hU p hp)
  · rw [hrel j, getD_set (by omega)]
    by_cases hij : i = j
    · subst hij
      simp only [if_true, true_and]
      constructor
      · rintro ⟨h1, _⟩; rw [hul] at h1; cases h1
      · intro h; exact absurd rfl (h (i, d, v) (List.mem_cons_self ..))
    · simp only [if_neg hij]
      refine and_congr Iff.rfl ⟨fun h p hp => ?_, fun h p hp => h p (List.mem_cons_of_mem _ hp)⟩
      rcases List.mem_cons.1 hp with rfl | hp
      · exact hij
      · exact h p hp
  · simp only [List.map_cons, List.mem_cons, not_or] at hn
    rw [look_cons, if_neg (fun e => hn.1 e.symm)] at htl
    exact hp.val t u htl hn.2
  · simp only [List.map_cons, List.mem_cons] at htm
    rcases htm with rfl | htm
    · exact hdn
    · exact hp.lt t htm

/-- Behind an operation that acts. -/
def Next (C : Ctx) (ops : Array Oper) (Q : Exit → Act → World → Prop) (Ib : Imm) (keep : Nat → List Ent) (ord : Plan) (pend : Pend) (listed : Array Bool) (σ : Env) (ds : List Nat) (dst : Option Nat) : Act → World → Prop := fun a w =>
  ∃ σ' I' δ', (σ' = σ ∨ ∃ d v, dst = some d ∧ σ' = (d, v) :: σ) ∧ (∀ p ∈ pend, Ib.le I' ∧ ∀ x ∈ keep p.1, x ∈ δ') ∧ EnvOK C.n σ' ds a ∧ Sat w I' δ' ∧ Tr C.w0 C.I0 C.δ0 w I' δ' ∧
    EJ C ops Q Ib keep ord pend listed σ' ds I' δ'

def still (ops : Array Oper) (pend : Pend) (j : Nat) : Pend := pend.filter fun p => !edge ops p.1 j

theorem eff_body {Ib : Imm} {keep : Nat → List Ent} {ord : Plan} {pend : Pend} {listed : Array Bool} {i : Nat} {o : Oper} (ho : ops[i]? = some o) (hsel : ∀ cs b, o.op ≠ .select cs b) (hdef : ∀ c, o.op ≠ .defer c)
    (k : OpsJ C ops (Exit.then (Next C ops Q Ib keep ord (still ops pend i) (listed.setIfInBounds i true) σ ds o.dst) NoQ) [o] σ ds I δ)
    (hb : backs ops = true) (hsz : listed.size = ops.size) (hok : effOK ops (idx pend) i = true) (hnext : chk ops (listed.setIfInBounds i true) ((idx pend).filter fun p => !edge ops p.1 i) ord = true) (hnd : ∀ i, (blks (keep i)).Nodup)
    (hpf : ∀ p ∈ pend, PF C ops Ib (keep p.1) σ ds p.1 p.2.1 p.2.2) (hk : ∀ p ∈ pend, Ib.le I ∧ ∀ x ∈ keep p.1, x ∈ δ) (hcl : ∀ p ∈ pend, ∀ q ∈ pend, edge ops q.1 p.1 = true ∨ q.2.1 ∉ Looks ops p.1) (hli : ∀ p ∈ pend, listed.getD p.1 false = true) (hir : i ∈ Region.ready .any ops listed)
    (U : Pend) (l : Array Bool) (fuel : Nat) (a : Act) (w : World) (hU : ∀ p ∈ U, p ∈ pend) (hl : l.size = ops.size) (hrel : ∀ j, l.getD j false = true ↔ listed.getD j false = true ∧ ∀ p ∈ U, p.1 ≠ j) (hfuel : remain ops l ≤ fuel + 1)
    (hil : i ∈ Region.ready .any ops l) (hp : Part C.n σ ds (U.map (·.2.1)) a) (hs : Sat w I δ) (ht : Tr C.w0 C.I0 C.δ0 w I δ) : wpOpIn C.F 0 C.P ops Q i (wpAnyIn C.F 0 C.P .any ops Q fuel (l.setIfInBounds i true)) a w := by
  have hL : Looks ops i = o.looksAt ops := by simp [Looks, ho]
  have hj : i < ops.size := (Array.getElem?_eq_some_iff.1 ho).1
  simp only [effOK, Bool.and_eq_true] at hok
  obtain ⟨hcf, hkp⟩ := hok
  obtain ⟨h0, o', ho', hpre⟩ := mem_ready.1 hil
  have : o' = o := by rw [ho] at ho'; exact (Option.some.inj ho').symm
  subst this
  have hul : l.getD i false = false := by
    have : l.getD i true = l.getD i false := by simp [hl, hj]
    rw [← this]; exact h0
  have hnl : listed.getD i false = false := by
    have h0 := (mem_ready.1 hir).1
    have : listed.getD i true = listed.getD i false := by simp [hsz, hj]
    rw [← this]; exact h0
  -- whoever has an edge to it has come up
  have hnoedge : ∀ p ∈ U, edge ops p.1 i = false := fun p hpU => by
    cases he : edge ops p.1 i with
    | false => rfl
    | true =>
      exfalso
      simp only [edge, ho] at he
      obtain ⟨e, hem, hee⟩ := Array.any_eq_true'.1 he
      simp only [Bool.and_eq_true, beq_iff_eq] at hee
      have := hpre e hem hee.1
      rw [hee.2] at this
      exact ((hrel p.1).1 this).2 p hpU rfl
  have hUs : ∀ p ∈ U, p ∈ still ops pend i := fun p hpU => List.mem_filter.2 ⟨hU p hpU, by simp [hnoedge p hpU]⟩
  have hclean : ∀ t ∈ o'.looksAt ops, t ∉ U.map (·.2.1) := by
    intro t htl htm
    obtain ⟨q, hqU, rfl⟩ := List.mem_map.1 htm
    have := List.all_eq_true.1 hcf (q.1, q.2.1) (List.mem_map_of_mem (f := fun p : Nat × Nat × Value => (p.1, p.2.1)) (hU q hqU))
    simp only [hnoedge q hqU, Bool.false_or, hL] at this
    simp [htl] at this
  obtain ⟨b, hbe, hbc⟩ := hp.complete
  have hrun := wpOp_compl (Q := Q) ho hbc hsel hdef hclean (k b w hbe hs ht)
  refine wpOpIn_mono ?_ hrun
  rintro a' w' ⟨b', hbc', σ', I', δ', hσ, hk', he', hs', ht', hej⟩
  have hidx : (idx pend).filter (fun p => !edge ops p.1 i) = idx (still ops pend i) := by
    simp only [idx, still, List.filter_map]
    rfl
  rw [hidx] at hnext
  have hstill : ∀ p ∈ still ops pend i, p ∈ pend := fun p hp => (List.mem_filter.1 hp).1
  refine hej.run hb (by simpa using hsz) hnext hnd (fun p hp' => ?_) hk' (fun p hp q hq => hcl p (hstill p hp) q (hstill q hq)) (fun p hp' => ?_) U _ fuel a' w' hUs (by simpa using hl) (fun j => ?_) (by have := remain_set hl hj hul; omega) (hbc'.back he' hp.lt) hs' ht'
  · rcases hσ with rfl | ⟨d, v, hd, rfl⟩
    · exact hpf p (hstill p hp')
    · have hkp2 := hkp
      simp only [ho, Option.bind_some, hd] at hkp2
      rw [hidx] at hkp2
      have := List.all_eq_true.1 hkp2 (p.1, p.2.1) (List.mem_map_of_mem (f := fun p : Nat × Nat × Value => (p.1, p.2.1)) hp')
      simp at this
      exact (hpf p (hstill p hp')).ext this.1 this.2
  · rw [getD_set (by omega)]
    split
    · rfl
    · exact hli p (hstill p hp')
  · rw [getD_set (by omega), getD_set (by omega)]
    by_cases hij : i = j
    · subst hij
      simp only [if_true, true_and, true_iff]
      intro p hpU e
      have := hli p (hU p hpU)
      rw [e, hnl] at this
      cases this
    · simp only [if_neg hij]; exact hrel j

theorem eff_end {listed : Array Bool} {j : Nat} (hj : j < ops.size) (hsz : listed.size = ops.size) (hall : ∀ j, j < ops.size → listed.getD j false = true) (hm : j ∈ Region.ready .any ops listed) : False := by
  have h0 := (mem_ready.1 hm).1
  have h2 : listed.getD j true = listed.getD j false := by simp [hsz, hj]
  rw [h2, hall j hj] at h0
  cases h0
/-- One that acts, or a call. -/
theorem e_eff {Ib : Imm} {keep : Nat → List Ent} {ord : Plan} {pend : Pend} {listed : Array Bool} {j : Nat} {o : Oper} (ho : ops[j]? = some o) (hsel : ∀ cs b, o.op ≠ .select cs b) (hdef : ∀ c, o.op ≠ .defer c)
    (k : OpsJ C ops (Exit.then (Next C ops Q Ib keep ord (still ops pend j) (listed.setIfInBounds j true) σ ds o.dst) NoQ) [o] σ ds I δ) : EJ C ops Q Ib keep (.ef j ord) pend listed σ ds I δ := by
  have hj : j < ops.size := (Array.getElem?_eq_some_iff.1 ho).1
  refine EJ.of_main (fun _ hsz hchk hall => ?_) ?_
  · exfalso
    simp only [chk, Bool.and_eq_true, beq_iff_eq] at hchk
    exact eff_end hj hsz hall (by rw [hchk.1]; exact List.mem_cons_self ..)
  · intro hb hsz hchk hnd hpf hk hcl hli i hi
    simp only [chk, Bool.and_eq_true, beq_iff_eq] at hchk
    obtain ⟨hr, hok, hnext⟩ := hchk
    have hir := hi
    rw [hr, List.mem_singleton] at hi
    subst hi
    exact eff_body ho hsel hdef k hb hsz hok hnext hnd hpf hk hcl hli hir
/-- Two that act, in either order. -/
theorem e_two {Ib : Imm} {keep : Nat → List Ent} {ord ord' : Plan} {pend : Pend} {listed : Array Bool} {j j' : Nat} {o o' : Oper} (ho : ops[j]? = some o) (hsel : ∀ cs b, o.op ≠ .select cs b) (hdef : ∀ c, o.op ≠ .defer c)
    (ho' : ops[j']? = some o') (hsel' : ∀ cs b, o'.op ≠ .select cs b) (hdef' : ∀ c, o'.op ≠ .defer c)
    (k : OpsJ C ops (Exit.then (Next C ops Q Ib keep ord (still ops pend j) (listed.setIfInBounds j true) σ ds o.dst) NoQ) [o] σ ds I δ)
    (k' : OpsJ C ops (Exit.then (Next C ops Q Ib keep ord' (still ops pend j') (listed.setIfInBounds j' true) σ ds o'.dst) NoQ) [o'] σ ds I δ) : EJ C ops Q Ib keep (.two j j' ord ord') pend listed σ ds I δ := by
  have hj : j < ops.size := (Array.getElem?_eq_some_iff.1 ho).1
  refine EJ.of_main (fun _ hsz hchk hall => ?_) ?_
  · exfalso
    simp only [chk, Bool.and_eq_true, beq_iff_eq] at hchk
    exact eff_end hj hsz hall (by rw [hchk.1]; exact List.mem_cons_self ..)
  · intro hb hsz hchk hnd hpf hk hcl hli i hi
    simp only [chk, Bool.and_eq_true, beq_iff_eq] at hchk
    obtain ⟨hr, ⟨hok, hnext⟩, hok', hnext'⟩ := hchk
    have hir := hi
    rw [hr] at hi
    rcases List.mem_cons.1 hi with rfl | hi
    · exact eff_body ho hsel hdef k hb hsz hok hnext hnd hpf hk hcl hli hir
    · rw [List.mem_singleton] at hi
      subst hi
      exact eff_body ho' hsel' hdef' k' hb hsz hok' hnext' hnd hpf hk hcl hli hir

/-- A region that draws its order. -/
theorem code_draw {id : Nat} {l : List Oper} (ord : Plan) (keep : Nat → List Ent) (hm : C.P.follows .mixedOrders = true) (hb : backs l.toArray = true) (hc : chk l.toArray (Array.replicate l.toArray.size false) [] ord = true) (hk : ∀ i, (keep i).Sublist δ)
    (k : EJ C l.toArray Q I keep ord [] (Array.replicate l.toArray.size false) σ ds I δ) : CodeJ C (.region id l.toArray true) Q σ ds I δ := by
  intro a w he hs ht
  refine wpIn_region_any hm ?_
  obtain ⟨s', t'⟩ := hs.drew
  refine k.run hb (by simp) hc (fun i => hs.nodup.sublist ((hk i).filterMap _)) (fun p hp => by cases hp) (fun p hp => by cases hp) (fun p hp => by cases hp) (fun p hp => by cases hp) [] _ _ a _ (fun p hp => by cases hp) (by simp) (fun j => ?_) ?_ ⟨he.size, he.defers, fun d v hd _ => he.val d v hd, fun d hd => by cases hd⟩ s' (ht.trans t')
  · constructor
    · intro h; exact ⟨h, fun p hp => by cases hp⟩
    · intro h; exact h.1
  · exact Nat.le_trans (List.length_filter_le _ _) (by simp)

theorem e_next {Ib : Imm} {keep : Nat → List Ent} {ord : Plan} {pend : Pend} {listed : Array Bool} {d : Nat} {v : Value} {dst : Option Nat} (hd : dst = some d) (hk : Side Ib I keep pend δ)
    (k : EJ C ops Q Ib keep ord pend listed ((d, v) :: σ) ds I δ) : PostJ C (Exit.then (Next C ops Q Ib keep ord pend listed σ ds dst) NoQ) .normal ((d, v) :: σ) ds I δ :=
  fun _ _ he hs ht => ⟨_, I, δ, .inr ⟨d, v, hd, rfl⟩, hk, he, hs, ht, k⟩
theorem e_next_ {Ib : Imm} {keep : Nat → List Ent} {ord : Plan} {pend : Pend} {listed : Array Bool} {dst : Option Nat} (hk : Side Ib I keep pend δ)
    (k : EJ C ops Q Ib keep ord pend listed σ ds I δ) : PostJ C (Exit.then (Next C ops Q Ib keep ord pend listed σ ds dst) NoQ) .normal σ ds I δ :=
  fun _ _ he hs ht => ⟨_, I, δ, .inl rfl, hk, he, hs, ht, k⟩
theorem side_nil {Ib : Imm} {keep : Nat → List Ent} {pend : Pend} (h : pend = []) : Side Ib I keep pend δ := by subst h; intro p hp; cases hp
theorem side_all {Ib : Imm} {keep : Nat → List Ent} {pend : Pend} (h1 : Ib.le I) (h2 : ∀ i, ∀ x ∈ keep i, x ∈ δ) : Side Ib I keep pend δ := fun p _ => ⟨h1, h2 p.1⟩
def two (k : Nat) (A B : List Ent) (i : Nat) : List Ent := bif Nat.blt i k then A else B
theorem two_sub {k : Nat} {A B : List Ent} (h1 : A.Sublist δ) (h2 : B.Sublist δ) (i : Nat) : (two k A B i).Sublist δ := by unfold two; cases Nat.blt i k <;> assumption
theorem side_two {Ib : Imm} {k : Nat} {A B : List Ent} {pend : Pend} (hp : pend.all (fun p => !(Nat.blt p.1 k)) = true) (h1 : Ib.le I) (h2 : ∀ x ∈ B, x ∈ δ) : Side Ib I (two k A B) pend δ := fun p hm => by
  have := List.all_eq_true.1 hp p hm
  simp only [Bool.not_eq_true'] at this
  exact ⟨h1, by unfold two; rw [this]; exact h2⟩
end Go.Proofs.Ytdbadicpbmndbaa.Lg
/- Rules for cuts of slices, literals, append. No condition. -/
namespace Go.Proofs.Ytdbadicpbmndbaa.Lg
open Go Go.RowKit

variable {C : Ctx} {Q : Exit → Act → World → Prop} {σ : Env} {ds : List Nat} {I : Imm} {δ : List Ent} {ops : Array Oper} {rest : List Oper}
variable {d : Nat} {ty : TypeId} {pos : String} {after : Array Edge}

/-! ### cuts -/
theorem v_sliceTo {t e : TypeId} {x y : Operand} {ad : Option Addr} {n c h size : Nat} (ht : C.P.underlying t = some (.slice e)) (hsz : (C.P.info? e).map (·.size) = some size)
    (hx : evS σ x = some (.slice ad n c)) (hy : evS σ y = some (.int .i64 (h : Int))) (hh : h ≤ c) : ValJ C σ ds I δ (.slice t x none (some y) none) (.slice ad h c) :=
  fun _ _ _ _ _ a w he _ => by
    have hu : (underlying t).run C.P w = .ok (.slice e) w := by simp [underlying, program, Sem.run, ht]
    cases hq : C.P.info? e with
    | none => simp [hq] at hsz
    | some inf =>
      simp [hq] at hsz
      simp [execOp, he.ev hx, he.ev hy, Instr.sliceAt, Instr.slice, Instr.sliceBounds, Instr.sliceBound, asIntOf, hu, sizeOf, typeInfo, program, Sem.run, hq, hh]
      cases ad <;> simp [Addr.add]

/-- where a slice begins that is cut at its front -/
def cutAt (ad : Option Addr) (c m size : Nat) : Option Addr := if c = m then ad else ad.map (·.add (m * size))
theorem v_sliceFrom {t e : TypeId} {x y : Operand} {ad : Option Addr} {n c m size : Nat} (ht : C.P.underlying t = some (.slice e)) (hsz : (C.P.info? e).map (·.size) = some size)
    (hx : evS σ x = some (.slice ad n c)) (hy : evS σ y = some (.int .i64 (m : Int))) (hm : m ≤ n) (_hnc : n ≤ c) : ValJ C σ ds I δ (.slice t x (some y) none none) (.slice (cutAt ad c m size) (n - m) (c - m)) :=
  fun _ _ _ _ _ a w he _ => by
    have hu : (underlying t).run C.P w = .ok (.slice e) w := by simp [underlying, program, Sem.run, ht]
    cases hq : C.P.info? e with
    | none => simp [hq] at hsz
    | some inf =>
      simp [hq] at hsz
      have : ¬ n < m := by omega
      simp [execOp, he.ev hx, he.ev hy, Instr.sliceAt, Instr.slice, Instr.sliceBounds, Instr.sliceBound, asIntOf, hu, sizeOf, typeInfo, program, Sem.run, hq, hsz, hm, cutAt]

theorem At.cut {ad : Option Addr} {c m size k : Nat} {vs : List Value} (h : At I ad (m * size + k) vs) (hcm : m < c) : At I (cutAt ad c m size) k vs := fun j v hj => by
  have h1 := h j v hj
  unfold cutAt
  rw [if_neg (by omega)]
  cases ad with
  | none => simp [Imm.cellO] at h1
  | some a =>
    simp only [Option.map_some] at h1 ⊢
    rw [add_add]
    rwa [Nat.add_assoc] at h1
theorem cutAt_isSome {ad : Option Addr} {c m size : Nat} (h : ad.isSome = true) : (cutAt ad c m size).isSome = true := by unfold cutAt; split <;> simpa using h

/-! ### builtins -/
theorem v_max {x y : Operand} {a b : Int} {ts : Array TypeId} (hx : evS σ x = some (.int .i64 a)) (hy : evS σ y = some (.int .i64 b)) :
    ValJ C σ ds I δ (.call { callee := .builtin .max, args := #[x, y], argTypes := ts }) (.int .i64 (max a b)) :=
  fun _ _ _ _ _ ac w he _ => by
    simp [execOp, resolve, invoke, builtin, Builtin.max_, Builtin.max2, he.ev hx, he.ev hy]
    split <;> omega
theorem v_min {x y : Operand} {a b : Int} {ts : Array TypeId} (hx : evS σ x = some (.int .i64 a)) (hy : evS σ y = some (.int .i64 b)) :
    ValJ C σ ds I δ (.call { callee := .builtin .min, args := #[x, y], argTypes := ts }) (.int .i64 (min a b)) :=
  fun _ _ _ _ _ ac w he _ => by
    simp [execOp, resolve, invoke, builtin, Builtin.min_, Builtin.min2, he.ev hx, he.ev hy]
    split <;> omega

/-! ### literals -/
def idxd : Nat → List Operand → List (Nat × Operand)
  | _, [] => []
  | k, x :: r => (k, x) :: idxd (k + 1) r
def cat : List Value → List Value
  | [] => []
  | v :: r => cellsL v ++ cat r
def sized (size : Nat) : List Value → Bool
  | [] => true
  | v :: r => Nat.beq (cellsL v).length size && sized size r
theorem cat_length {size : Nat} : ∀ {vs : List Value}, sized size vs = true → (cat vs).length = vs.length * size
  | [], _ => by simp [cat]
  | v :: r, h => by
    simp only [sized, Bool.and_eq_true] at h
    have h1 : (cellsL v).length = size := Nat.eq_of_beq_eq_true h.1
    have h2 := cat_length h.2
    simp [cat, h1, h2, Nat.add_mul, Nat.add_comm]

theorem foldl_set (vs : List Value) : ∀ (k off : Nat) (pre suf : List Value), pre.length = off + k → vs.length ≤ suf.length →
    (vs.zipIdx k).foldl (fun cs (x : Value × Nat) => cs.setIfInBounds (off + x.2) x.1) (pre ++ suf).toArray = (pre ++ vs ++ suf.drop vs.length).toArray := by
  induction vs with
  | nil => intro k off pre suf _ _; simp
  | cons v r ih =>
    intro k off pre suf hp hs
    match suf, hs with
    | s :: suf, hs =>
      simp only [List.zipIdx_cons, List.foldl_cons]
      have h1 : (pre ++ s :: suf).toArray.setIfInBounds (off + k) v = ((pre ++ [v]) ++ suf).toArray := by
        simp [List.setIfInBounds_toArray, ← hp]
      rw [h1, ih (k + 1) off (pre ++ [v]) suf (by simp [hp]; omega) (by simpa using hs)]
      simp

theorem fill_cat {size : Nat} : ∀ (vs : List Value) (k : Nat) (pre suf : List Value), sized size vs = true → pre.length = k * size → suf.length = vs.length * size →
    Instr.fill (fun i => some (i * size, size)) (pre ++ suf).toArray (vs.zipIdx k |>.map fun p => (p.2, p.1)) = some (pre ++ cat vs).toArray
  | [], k, pre, suf, _, _, hs => by
    have : suf = [] := List.eq_nil_of_length_eq_zero (by simpa using hs)
    simp [Instr.fill, cat, this]
  | v :: r, k, pre, suf, hv, hp, hs => by
    simp only [sized, Bool.and_eq_true] at hv
    have h1 : (cellsL v).length = size := Nat.eq_of_beq_eq_true hv.1
    have hlen : (v :: r).length * size = size + r.length * size := by simp [Nat.add_mul, Nat.add_comm]
    simp only [List.zipIdx_cons, List.map_cons, Instr.fill]
    rw [if_neg (by simp [cellsL_cells, h1, hp]; omega)]
    have hf := foldl_set (cellsL v) 0 (k * size) pre suf (by simpa using hp) (by omega)
    have hz : v.cells.zipIdx = ((cellsL v).zipIdx 0).toArray := by rw [cellsL_cells]; simp
    rw [hz]
    have hfold : (List.toArray ((cellsL v).zipIdx 0)).foldl (fun cs (x : Value × Nat) => cs.setIfInBounds (k * size + x.2) x.1) (pre ++ suf).toArray = (pre ++ cellsL v ++ suf.drop (cellsL v).length).toArray := by
      rw [← hf]; simp
    rw [hfold, fill_cat r (k + 1) (pre ++ cellsL v) (suf.drop (cellsL v).length) hv.2 (by simp [hp, h1, Nat.add_mul]) (by simp [h1]; omega)]
    simp [cat]

theorem idxd_eq (a : Act) {n : Nat} (he : EnvOK n σ ds a) : ∀ (xs : List Operand) (vs : List Value) (k : Nat), evL σ xs = some vs → (idxd k xs).map (fun p => (p.1, a.eval p.2)) = (vs.zipIdx k).map fun p => (p.2, p.1)
  | [], vs, k, h => by simp [evL] at h; subst h; simp [idxd]
  | x :: r, vs, k, h => by
    simp only [evL] at h
    cases h1 : evS σ x with
    | none => simp [h1] at h
    | some v =>
      cases h2 : evL σ r with
      | none => simp [h1, h2] at h
      | some us =>
        simp [h1, h2] at h
        subst h
        simp [idxd, he.ev h1, idxd_eq a he r us (k + 1) h2]

theorem sat_row {w : World} {g : Nat} {e : TypeId} {size n : Nat} {cs : List Value} (h : w.heap[g]? = some (.cells cs.toArray e (0, 0))) (hl : cs.length = n * size) (hn : n ≤ maxLen) : (Ent.row (.slice (some ⟨g, 0, none⟩) n n) e size n cs).holds w :=
  ⟨hl, .inr ⟨g, n, cs.toArray, rfl, Nat.zero_le _, h, Nat.le_refl _, hn, by simpa using hl, by simp [← hl]⟩⟩

/-- A slice literal. -/
theorem o_buildSlice {t e : TypeId} {z : Value} {size bytes len : Nat} {parts : List (Nat × Operand)} {xs : List Operand} {vs : List Value} (ht : C.P.underlying t = some (.slice e)) (hb : (C.P.info? e).map (fun i => (i.zero, i.size, i.bytes)) = some (some z, size, bytes))
    (hp : parts = idxd 0 xs) (hx : evL σ xs = some vs) (hv : sized size vs = true) (hlen : vs.length = len) (hd : Nat.blt d C.n = true) (k : ∀ b, OpsJ C ops Q rest ((d, .slice (some ⟨b, 0, none⟩) len len) :: σ) ds I (.row (.slice (some ⟨b, 0, none⟩) len len) e size len (cat vs) :: δ))
    (_hz : z.cells.size = size := by rfl) (hle : Nat.ble (len * size) 1000 = true := by rfl) (hln : Nat.ble len 1000 = true := by rfl) :
    OpsJ C ops Q ({ dst := some d, op := .buildSlice t len parts.toArray, type := ty, pos := pos, after := after, guard := none } :: rest) σ ds I δ :=
  op_step rfl rfl hd (by intro c hc; cases hc) (fun a w he hs => by
    subst hp
    have hl : len ≤ 1000 := by simpa [Nat.ble_eq] using hln
    have hle' : len * size ≤ 1000 := by simpa [Nat.ble_eq] using hle
    have hcat := cat_length hv
    rw [hlen] at hcat
    have hw1 : (w.alloc (.cells (cat vs).toArray e)).heap[w.heap.size]? = some (.cells (cat vs).toArray e (0, 0)) := heap_alloc_new w _
    obtain ⟨s', t'⟩ := hs.alloc (.row (.slice (some ⟨w.heap.size, 0, none⟩) len len) e size len (cat vs)) (.cells (cat vs).toArray e) rfl (sat_row hw1 hcat (by unfold maxLen; omega))
    refine ⟨_, _, _, _, ?_, s', t', k w.heap.size⟩
    have hu : (underlying t).run C.P w = .ok (.slice e) w := by simp [underlying, program, Sem.run, ht]
    cases hq : C.P.info? e with
    | none => simp [hq] at hb
    | some inf =>
      simp [hq] at hb
      obtain ⟨hb1, hb2, hb3⟩ := hb
      have hmap : (idxd 0 xs).toArray.map (fun (p : Nat × Operand) => (p.1, a.eval p.2)) = ((vs.zipIdx 0).map fun p => (p.2, p.1)).toArray := by simp [idxd_eq a he xs vs 0 hx]
      have hbase : ∀ (zs : Array Value), ((Array.range (len * size)).map (zs[· % zs.size]!)) = (([] : List Value) ++ ((List.range (len * size)).map (zs[· % zs.size]!))).toArray := fun zs => by
        apply Array.ext
        · simp
        · intro i h1 h2; simp
      have hfill : ∀ zs : Array Value, Instr.fill (fun i => some (i * size, size)) ((Array.range (len * size)).map (zs[· % zs.size]!)) ((vs.zipIdx 0).map fun p => (p.2, p.1)) = some (cat vs).toArray := fun zs => by
        rw [hbase zs, fill_cat vs 0 [] _ hv (by simp) (by simp [hlen])]
        simp
      have hbig : ¬ len * size > 2 ^ 24 := by omega
      have hzv : (zeroValue e).run C.P w = .ok z w := by simp [zeroValue, typeInfo, program, Sem.run, hq, hb1]
      have hmap2 : (idxd 0 xs).toArray.map (fun (x : Nat × Operand) => match x with | (i, x) => (i, a.eval x)) = ((vs.zipIdx 0).map fun p => (p.2, p.1)).toArray := hmap
      simp only [execOp, hmap2, Instr.buildSlice, Sem.run_bind, hu, Result.andThen]
      have hsz : (sizeOf e).run C.P w = .ok size w := by simp [sizeOf, typeInfo, program, Sem.run, hq, hb2]
      simp only [hsz, if_neg hbig]
      by_cases h0 : len * size = 0
      · simp only [h0, if_true, Sem.run_bind, Sem.run_pure, Result.andThen]
        have := hfill #[]
        simp only [h0] at this
        rw [this]
        simp [newRow, newObj, Sem.run]
      · simp only [if_neg h0, Sem.run_bind, hzv, Result.andThen, Sem.run_pure]
        have := hfill z.cells
        rw [this]
        simp [newRow, newObj, Sem.run])

/-! ### append -/
/-- What is appended can be read. -/
def Src (I : Imm) (δ : List Ent) (A : Option Addr) (ys : List Value) : Prop := ys = [] ∨ ∃ a, A = some a ∧ ∀ w, Sat w I δ → ∀ j u, ys[j]? = some u → w.cell? (a.add j) = some u
theorem Src.ofI {A : Option Addr} {ys : List Value} (h : Cells I A ys) : Src I δ A ys := by
  cases ys with
  | nil => exact .inl rfl
  | cons y ys =>
    have h0 := h 0 y rfl
    cases A with
    | none => simp [Imm.cellO] at h0
    | some a => exact .inr ⟨a, rfl, fun w hs j u hj => hs.cell (h j u hj)⟩
theorem Src.ofRow {A : Option Addr} {m c : Nat} {e : TypeId} {size n : Nat} {ys : List Value} (h : Has δ (.row (.slice A m c) e size n ys)) (hA : A.isSome = true) : Src I δ A ys := by
  obtain ⟨a, rfl⟩ := Option.isSome_iff_exists.1 hA
  refine .inr ⟨a, rfl, fun w hs j u hj => ?_⟩
  have hr : w.ownsRow 0 e size (.slice (some a) m c) n ys := hs.ents _ h.mem
  rcases hr.2 with ⟨he, _⟩ | ⟨g, cap, cur, he, _⟩
  · cases he
  · have : a = ⟨g, 0, none⟩ := by injection he with he; injection he
    subst this
    exact hr.cells (g := g) rfl j u hj

theorem run_append_nil {P : Program} {w : World} {t e ty : TypeId} {size n m c : Nat} {v : Value} {A : Option Addr} {xs : List Value} (ht : P.underlying t = some (.slice e)) (hi : (P.info? e).map (·.size) = some size) (h : w.ownsRow 0 e size v n xs) (hm : m = 0) :
    (Builtin.append_ #[t, t] ty #[v, .slice A m c]).run P w = .ok v w := by
  subst hm
  have hu : (underlying t).run P w = .ok (.slice e) w := by simp [underlying, program, Sem.run, ht]
  cases hq : P.info? e with
  | none => simp [hq] at hi
  | some inf =>
    have hsz : (sizeOf e).run P w = .ok inf.size w := by simp [sizeOf, typeInfo, program, Sem.run, hq]
    have hload : ∀ a : Addr, (loadCells a 0).run P w = .ok #[] w := fun a => by simp [loadCells, loadCellsFrom]
    rcases h.2 with ⟨rfl, rfl⟩ | ⟨g, cap, cur, rfl, _, _, hnc, _⟩
    · cases A <;> simp [Builtin.append_, hu, hsz, Builtin.lenOf, Builtin.firstCells, hload]
    · cases A <;> simp [Builtin.append_, hu, hsz, Builtin.lenOf, Builtin.firstCells, hnc, hload, storeCells]

theorem own_shape {w : World} {b : Nat} {e : TypeId} {size n : Nat} {v : Value} {xs : List Value} (h : w.ownsRow b e size v n xs) : ∃ A c, v = .slice A n c := by
  rcases h.2 with ⟨rfl, rfl⟩ | ⟨g, cap, cur, rfl, _⟩
  · exact ⟨none, 0, rfl⟩
  · exact ⟨_, cap, rfl⟩
theorem o_append {t e : TypeId} {z : Value} {size bytes n m c : Nat} {s x : Operand} {v : Value} {A : Option Addr} {xs ys : List Value} {G : Value → List Ent} (ht : C.P.underlying t = some (.slice e)) (hb : (C.P.info? e).map (fun i => (i.zero, i.size, i.bytes)) = some (some z, size, bytes))
    (hs : evS σ s = some v) (hx : evS σ x = some (.slice A m c)) (hd : Nat.blt d C.n = true) (hsw : ∀ v', Swap δ (.row v e size n xs) (G v') (.row v' e size (n + m) (xs ++ ys))) (hsrc : Src I δ A ys) (hl : ys.length = m * size) (h1 : ∀ u ∈ ys, u.oneCell' = true)
    (hbd : n + m ≤ 9223372036854775807) (hby : (n + m) * bytes ≤ 140737488355328) (k : ∀ A' c', OpsJ C ops Q rest ((d, .slice A' (n + m) c') :: σ) ds I (G (.slice A' (n + m) c'))) (hz : z.cells.size = size := by rfl) (hsz : Nat.blt 0 size = true := by rfl) :
    OpsJ C ops Q ({ dst := some d, op := .call { callee := .builtin .append, args := #[s, x], argTypes := #[t, t] }, type := ty, pos := pos, after := after, guard := none } :: rest) σ ds I δ :=
  op_step rfl rfl hd (by intro c hc; cases hc) (fun a w he hsat => by
    have hsz' : 0 < size := by simpa [Nat.blt_eq] using hsz
    obtain ⟨l, r, hl1, _⟩ := (hsw v).split
    have hown : w.ownsRow 0 e size v n xs := hsat.ents (.row v e size n xs) (by rw [hl1]; simp)
    have hex : ∀ r, (Builtin.append_ #[t, t] ty #[v, .slice A m c]).run C.P w = r → (execOp a.eval { dst := some d, op := .call { callee := .builtin .append, args := #[s, x], argTypes := #[t, t] }, type := ty, pos := pos, after := after, guard := none }).run C.P w = r.andThen fun v w' => .ok (.value v) w' := fun r hr => by
      simp [execOp, resolve, invoke, builtin, he.ev hs, he.ev hx, hr]
    rcases hsrc with rfl | ⟨ad, rfl, hread⟩
    · have hm : m = 0 := by
        rcases Nat.eq_zero_or_pos m with h | h
        · exact h
        · have := Nat.mul_pos h hsz'; simp at hl; omega
      have hr := run_append_nil (P := C.P) (ty := ty) (c := c) (A := A) ht (by cases hq : C.P.info? e <;> simp_all) hown hm
      subst hm
      obtain ⟨A', c', rfl⟩ := own_shape hown
      have hG : G (.slice A' (n + 0) c') = δ := by
        have h2 := hsw (.slice A' (n + 0) c')
        obtain ⟨l, r, e1, e2⟩ := h2.split
        rw [e1, e2]; simp
      exact ⟨_, w, I, G _, (hex _ hr).trans rfl, by rw [hG]; exact hsat, by rw [hG]; exact Tr.refl _ _ _, k A' c'⟩
    · cases hq : C.P.info? e with
      | none => simp [hq] at hb
      | some inf =>
        simp [hq] at hb
        obtain ⟨hb1, hb2, hb3⟩ := hb
        obtain ⟨v', w', hr, hown', hg, _, hat⟩ := run_append_own_at (P := C.P) (w := w) 0 t ty e inf z size bytes ht hq hb1 hb2 hb3 hz hsz' v n xs hown ad m c ys hl (hread w hsat) h1 (by simpa [maxLen] using hbd) hby (Nat.zero_le _)
        obtain ⟨s', t'⟩ := hsat.swap (hsw v') hg.os hg.tape hg.output hg.size (fun b hlt hne => hg.block b hlt (fun e => hne (by simpa [Ent.blk] using e.symm))) hown' (fun b hb => by
          have hb' : v'.ownBlock = some b := hb
          rcases hat with h | h
          · exact .inl (by rw [← hb', h]; rfl)
          · rw [h] at hb'; cases hb'; exact .inr (Nat.le_refl _))
        obtain ⟨A', c', rfl⟩ := own_shape hown'
        exact ⟨_, w', I, G _, (hex _ hr).trans rfl, s', t', k A' c'⟩)

/-- nil is a row of one's own, too. -/
theorem View.nilRow (e : TypeId) (size : Nat) : View I δ I (.row (.slice none 0 0) e size 0 [] :: δ) := fun w h =>
  ⟨⟨h.imm, fun x hx => by
      rcases List.mem_cons.1 hx with rfl | hx
      · exact World.ownsRow_nil w 0 e size
      · exact h.ents x hx, h.nodup, fun b hb => h.apart b hb⟩,
    ⟨rfl, rfl, rfl, Nat.le_refl _, fun _ _ _ => rfl, Imm.le_refl _, fun b o h1 h2 => (by rw [h1] at h2; cases h2), fun b hb => .inl hb⟩⟩

/-- structs -/
def fillL (ps : List (Nat × Nat)) : List Value → List (Nat × Value) → Option (List Value)
  | cs, [] => some cs
  | cs, (i, v) :: r =>
    match ps[i]? with
    | some (off, size) => bif Nat.beq (cellsL v).length size && Nat.blt 0 size then (stL cs off (cellsL v)).bind fun cs' => fillL ps cs' r else none
    | none => none
def evP (σ : Env) : List (Nat × Operand) → Option (List (Nat × Value))
  | [] => some []
  | (i, x) :: r => match evS σ x, evP σ r with
    | some v, some vs => some ((i, v) :: vs)
    | _, _ => none
theorem evP_ok {n : Nat} {a : Act} (he : EnvOK n σ ds a) : ∀ {xs : List (Nat × Operand)} {vs : List (Nat × Value)}, evP σ xs = some vs → xs.map (fun p => (p.1, a.eval p.2)) = vs
  | [], vs, h => by simp [evP] at h; simp [← h]
  | (i, x) :: r, vs, h => by
    simp only [evP] at h
    cases h1 : evS σ x with
    | none => simp [h1] at h
    | some v =>
      cases h2 : evP σ r with
      | none => simp [h1, h2] at h
      | some us =>
        simp [h1, h2] at h
        subst h
        simp [he.ev h1, evP_ok he h2]

theorem foldl_stL (vs : List Value) : ∀ (cs cs' : List Value) (off k : Nat), stL cs (off + k) vs = some cs' → (vs.zipIdx k).foldl (fun cs (x : Value × Nat) => cs.setIfInBounds (off + x.2) x.1) cs.toArray = cs'.toArray := by
  induction vs with
  | nil => intro cs cs' off k h; cases cs <;> cases hk : off + k <;> simp_all [stL]
  | cons v r ih =>
    intro cs cs' off k h
    obtain ⟨_, h2, h3, h4⟩ := stL_spec _ _ _ _ h
    have hle := h3 (by simp)
    simp only [List.length_cons] at hle
    have hst : ∃ d, stL (cs.set (off + k) v) (off + (k + 1)) r = some d ∧ d = cs' := by
      have key : ∀ (cs : List Value) (o : Nat) (d : List Value), stL cs o (v :: r) = some d → stL (cs.set o v) (o + 1) r = some d := by
        intro cs
        induction cs with
        | nil => intro o d h; cases o <;> simp [stL] at h
        | cons c cs ihc =>
          intro o d h
          cases o with
          | zero =>
            simp only [stL, Option.map_eq_some_iff] at h
            obtain ⟨q, hq, rfl⟩ := h
            cases r with
            | nil => cases cs <;> simp [stL] at hq ⊢ <;> simp [hq]
            | cons u r => simp [stL, hq]
          | succ o =>
            simp only [stL, Option.map_eq_some_iff] at h
            obtain ⟨q, hq, rfl⟩ := h
            have := ihc o q hq
            cases r with
            | nil => cases hcs : (cs.set o v) <;> simp [stL, hcs] at this ⊢ <;> simp [this]
            | cons u r => simp [stL, this]
      exact ⟨cs', key cs (off + k) cs' h, rfl⟩
    obtain ⟨d, hd, rfl⟩ := hst
    simp only [List.zipIdx_cons, List.foldl_cons]
    have h1 : cs.toArray.setIfInBounds (off + k) v = (cs.set (off + k) v).toArray := by simp
    rw [h1]
    exact ih _ _ _ _ hd

theorem fill_L (ps : List (Nat × Nat)) : ∀ (vs : List (Nat × Value)) (cs cs' : List Value), fillL ps cs vs = some cs' → Instr.fill (fun i => ps[i]?) cs.toArray vs = some cs'.toArray
  | [], cs, cs', h => by simp [fillL] at h; simp [Instr.fill, h]
  | (i, v) :: r, cs, cs', h => by
    simp only [fillL] at h
    cases hp : ps[i]? with
    | none => simp [hp] at h
    | some p =>
      obtain ⟨off, size⟩ := p
      simp only [hp] at h
      cases hb : (Nat.beq (cellsL v).length size && Nat.blt 0 size) with
      | false => simp only [hb, cond_false] at h; cases h
      | true =>
        simp only [hb, cond_true, Option.bind_eq_some_iff] at h
        obtain ⟨d, hd, hr⟩ := h
        simp only [Bool.and_eq_true, Nat.blt_eq] at hb
        have hl : (cellsL v).length = size := Nat.eq_of_beq_eq_true hb.1
        obtain ⟨h1, h2, h3, _⟩ := stL_spec _ _ _ _ hd
        have hle : off + (cellsL v).length ≤ cs.length := h3 (fun e => by rw [e] at hl; simp at hl; omega)
        simp only [Instr.fill, hp]
        have hz : v.cells.zipIdx = ((cellsL v).zipIdx 0).toArray := by rw [cellsL_cells]; simp
        have hf := foldl_stL (cellsL v) cs d off 0 hd
        have hfold : (List.toArray ((cellsL v).zipIdx 0)).foldl (fun cs (x : Value × Nat) => cs.setIfInBounds (off + x.2) x.1) cs.toArray = d.toArray := by rw [← hf]; simp
        have hcz : v.cells.size = size := by rw [cellsL_cells]; simpa using hl
        rw [if_neg (by simp [hcz]; omega), hz, hfold]
        exact fill_L ps r d cs' hr

/-- A struct out of its fields. -/
structure Bl (P : Program) (t : TypeId) (z : List Value) (ps : List (Nat × Nat)) : Prop where
  desc : ∃ fs, P.underlying t = some (.struct fs) ∧ fs.toList.mapM (fun f => (P.info? f.type).map fun i => (f.offset, i.size)) = some ps
  zero : (P.info? t).bind (·.zero) = some (.agg z.toArray)

theorem mapM_fields {P : Program} {w : World} : ∀ (fs : List Field) (ps : List (Nat × Nat)), fs.mapM (fun f => (P.info? f.type).map fun i => (f.offset, i.size)) = some ps →
    (fs.mapM (m := Sem) fun f => do pure (f.offset, ← sizeOf f.type)).run P w = .ok ps w
  | [], ps, h => by simp at h; subst h; simp
  | f :: fs, ps, h => by
    simp only [List.mapM_cons, Option.bind_eq_bind, Option.bind_eq_some_iff, Option.pure_def, Option.some.injEq] at h
    obtain ⟨p, hp, q, hq, rfl⟩ := h
    cases hi : P.info? f.type with
    | none => simp [hi] at hp
    | some i =>
      simp [hi] at hp
      subst hp
      have := mapM_fields (w := w) fs q hq
      simp only [List.mapM_cons, Sem.run_bind]
      simp [sizeOf, typeInfo, program, Sem.run, hi] at this ⊢
      rw [this]
      rfl

theorem v_build {t : TypeId} {parts : List (Nat × Operand)} {z cs : List Value} {ps : List (Nat × Nat)} {vs : List (Nat × Value)} (hb : Bl C.P t z ps) (hx : evP σ parts = some vs) (hf : fillL ps z vs = some cs) :
    ValJ C σ ds I δ (.build t parts.toArray) (.agg cs.toArray) :=
  fun _ _ _ _ _ a w he _ => by
    obtain ⟨fs, hu', hps⟩ := hb.desc
    have hz := hb.zero
    have hu : (underlying t).run C.P w = .ok (.struct fs) w := by simp [underlying, program, Sem.run, hu']
    have hzv : (zeroValue t).run C.P w = .ok (.agg z.toArray) w := by
      cases hq : C.P.info? t with
      | none => simp [hq] at hz
      | some i => simp [hq] at hz; simp [zeroValue, typeInfo, program, Sem.run, hq, hz]
    have hmap : parts.toArray.map (fun (x : Nat × Operand) => match x with | (i, x) => (i, a.eval x)) = vs.toArray := by
      rw [← evP_ok he hx]; simp
    have hm : (fs.mapM (m := Sem) fun f => do pure (f.offset, ← sizeOf f.type)).run C.P w = .ok ps.toArray w := by
      have h1 := mapM_fields (w := w) fs.toList ps hps
      have h2 : fs = fs.toList.toArray := by simp
      rw [h2, List.mapM_toArray, Sem.run_map, h1]
      rfl
    have hfill := fill_L ps vs z cs hf
    simp only [execOp, hmap, Instr.build, Sem.run_bind, hzv, hu, Result.andThen, hm]
    have hpl : (fun i : Nat => ps.toArray[i]?) = (fun i : Nat => ps[i]?) := by funext i; simp
    simp only [Value.cells, hpl]
    rw [hfill]
    rfl
end Go.Proofs.Ytdbadicpbmndbaa.Lg
/- How rows of numbers and terms lie in memory. Plain definitions; no condition. -/
namespace Go.Proofs.Ytdbadicpbmndbaa
open Go Lg

def InR (n : Int) : Prop := -9223372036854775808 ≤ n ∧ n ≤ 9223372036854775807

/-- a row of numbers that is only read -/
inductive RInts (I : Imm) : Value → List Int → Prop
  | mk (ad : Option Addr) (c : Nat) (xs : List Int) (hc : xs.length ≤ c) (hb : xs.length ≤ 17592186044416) (hat : Cells I ad (xs.map (Value.int .i64))) (hr : ∀ x ∈ xs, InR x) : RInts I (.slice ad xs.length c) xs

theorem RInts.mono {I J : Imm} {v : Value} {xs : List Int} (h : RInts I v xs) (hl : I.le J) : RInts J v xs := by
  obtain ⟨ad, c, xs, hc, hb, hat, hr⟩ := h
  exact ⟨ad, c, xs, hc, hb, hat.mono hl, hr⟩
theorem RInts.nil (I : Imm) : RInts I (.slice none 0 0) [] := ⟨none, 0, [], Nat.le_refl _, by simp, fun j v hj => by simp at hj, fun x hx => by cases hx⟩

theorem ints_at {I : Imm} {ad : Option Addr} {xs : List Int} (h : Cells I ad (xs.map (Value.int .i64))) (i : Nat) (hi : i < xs.length) : At I ad (i * 1) [.int .i64 xs[i]] :=
  h.at _ fun j v hj => by
    rcases j with _ | j
    · simp at hj; subst hj; simp [hi]
    · simp at hj
theorem ints_some {I : Imm} {ad : Option Addr} {xs : List Int} (h : Cells I ad (xs.map (Value.int .i64))) (i : Nat) (hi : i < xs.length) : ad.isSome = true := (ints_at h i hi).isSome

/-- a term -/
inductive T where
  | mk (head : Int) (args : List T)
def T.head : T → Int | .mk h _ => h
def T.args : T → List T | .mk _ a => a

inductive RepS (I : Imm) : Value → List T → Prop
  | mk (ad : Option Addr) (c : Nat) (ss : Nat → Option Addr × Nat) (ts : List T) (hc : ts.length ≤ c) (hb : ts.length ≤ 4398046511104)
      (hat : ∀ i (h : i < ts.length), At I ad (i * 2) [.int .i64 ts[i].head, .slice (ss i).1 ts[i].args.length (ss i).2]) (hr : ∀ i (h : i < ts.length), InR ts[i].head)
      (sub : ∀ i (h : i < ts.length), RepS I (.slice (ss i).1 ts[i].args.length (ss i).2) ts[i].args) : RepS I (.slice ad ts.length c) ts
theorem RepS.mono {I J : Imm} {v : Value} {ts : List T} (h : RepS I v ts) (hl : I.le J) : RepS J v ts := by
  induction h with
  | mk ad c ss ts hc hb hat hr _ ih => exact ⟨ad, c, ss, ts, hc, hb, fun i h => (hat i h).mono hl, hr, ih⟩
theorem RepS.nil (I : Imm) : RepS I (.slice none 0 0) [] := ⟨none, 0, fun _ => (none, 0), [], Nat.le_refl _, by simp, fun i h => by simp at h, fun i h => by simp at h, fun i h => by simp at h⟩

/-- a term as a value -/
inductive RepT (I : Imm) : Value → T → Prop
  | mk (s : Value) (t : T) (hr : InR t.head) (hs : RepS I s t.args) : RepT I (.agg #[.int .i64 t.head, s]) t
theorem RepT.mono {I J : Imm} {v : Value} {t : T} (h : RepT I v t) (hl : I.le J) : RepT J v t := by
  obtain ⟨s, t, hr, hs⟩ := h
  exact ⟨s, t, hr, hs.mono hl⟩
theorem RepT.elim {I : Imm} {v : Value} {h : Int} {ts : List T} (hv : RepT I v (.mk h ts)) :
    ∃ (ad : Option Addr) (c : Nat) (ss : Nat → Option Addr × Nat), v = .agg #[.int .i64 h, .slice ad ts.length c] ∧ InR h ∧ ts.length ≤ c ∧ ts.length ≤ 4398046511104 ∧ (∀ i (h : i < ts.length), At I ad (i * 2) [.int .i64 ts[i].head, .slice (ss i).1 ts[i].args.length (ss i).2]) ∧
      (∀ i (h : i < ts.length), RepT I (.agg #[.int .i64 ts[i].head, .slice (ss i).1 ts[i].args.length (ss i).2]) ts[i]) := by
  obtain ⟨s, t, hr, hs⟩ := hv
  obtain ⟨ad, c, ss, ts, hc, hb, hat, hrs, hsub⟩ := hs
  exact ⟨ad, c, ss, rfl, hr, hc, hb, hat, fun i hi => RepT.mk _ _ (hrs i hi) (hsub i hi)⟩
theorem RepT.intro {I : Imm} {h : Int} {ad : Option Addr} {c : Nat} {ts : List T} (ss : Nat → Option Addr × Nat) (hr : InR h) (hc : ts.length ≤ c) (hb : ts.length ≤ 4398046511104) (hat : ∀ i (h : i < ts.length), At I ad (i * 2) [.int .i64 ts[i].head, .slice (ss i).1 ts[i].args.length (ss i).2])
    (hsub : ∀ i (h : i < ts.length), RepT I (.agg #[.int .i64 ts[i].head, .slice (ss i).1 ts[i].args.length (ss i).2]) ts[i]) : RepT I (.agg #[.int .i64 h, .slice ad ts.length c]) (.mk h ts) := by
  have key : ∀ (v : Value) (t : T) (s : Value), RepT I v t → v = .agg #[.int .i64 t.head, s] → InR t.head ∧ RepS I s t.args := fun v t s hv e => by
    obtain ⟨s', t, hr, hs⟩ := hv
    have e' : s' = s := by simpa using e
    subst e'
    exact ⟨hr, hs⟩
  exact RepT.mk _ (.mk h ts) hr ⟨ad, c, ss, ts, hc, hb, hat, fun i hi => (key _ _ _ (hsub i hi) rfl).1, fun i hi => (key _ _ _ (hsub i hi) rfl).2⟩


/-- cells of terms, one behind the other -/
def RowT (I : Imm) (xs : List Value) (ts : List T) : Prop :=
  xs.length = ts.length * 2 ∧ ∀ i (h : i < ts.length), ∃ s : Option Addr × Nat, xs[i * 2]? = some (.int .i64 ts[i].head) ∧ xs[i * 2 + 1]? = some (.slice s.1 ts[i].args.length s.2) ∧ RepT I (.agg #[.int .i64 ts[i].head, .slice s.1 ts[i].args.length s.2]) ts[i]
theorem RowT.nil (I : Imm) : RowT I [] [] := ⟨rfl, fun i h => by simp at h⟩
theorem RowT.mono {I J : Imm} {xs : List Value} {ts : List T} (h : RowT I xs ts) (hl : I.le J) : RowT J xs ts :=
  ⟨h.1, fun i hi => let ⟨s, h1, h2, h3⟩ := h.2 i hi; ⟨s, h1, h2, h3.mono hl⟩⟩
theorem RowT.app {I : Imm} {xs ys : List Value} {ts us : List T} (h : RowT I xs ts) (k : RowT I ys us) : RowT I (xs ++ ys) (ts ++ us) := by
  refine ⟨by simp [h.1, k.1]; omega, fun i hi => ?_⟩
  by_cases hlt : i < ts.length
  · obtain ⟨s, h1, h2, h3⟩ := h.2 i hlt
    have e : (ts ++ us)[i] = ts[i] := List.getElem_append_left hlt
    rw [e]
    exact ⟨s, by rw [List.getElem?_append_left (by rw [h.1]; omega)]; exact h1, by rw [List.getElem?_append_left (by rw [h.1]; omega)]; exact h2, h3⟩
  · have hi' : i - ts.length < us.length := by simp at hi; omega
    obtain ⟨s, h1, h2, h3⟩ := k.2 (i - ts.length) hi'
    have e : (ts ++ us)[i] = us[i - ts.length] := List.getElem_append_right (by omega)
    rw [e]
    refine ⟨s, ?_, ?_, h3⟩
    · rw [List.getElem?_append_right (by rw [h.1]; omega), h.1, ← h1]; congr 1; omega
    · rw [List.getElem?_append_right (by rw [h.1]; omega), h.1, ← h2]; congr 1; omega
theorem RowT.one {I : Imm} {t : T} {a : Option Addr} {c : Nat} (h : RepT I (.agg #[.int .i64 t.head, .slice a t.args.length c]) t) : RowT I [.int .i64 t.head, .slice a t.args.length c] [t] :=
  ⟨rfl, fun i hi => by
    have : i = 0 := by simp at hi; omega
    subst this
    exact ⟨(a, c), rfl, rfl, h⟩⟩
theorem RowT.rep {I : Imm} {ad : Option Addr} {c : Nat} {xs : List Value} {ts : List T} {h : Int} (hc : Cells I ad xs) (hr : RowT I xs ts) (hh : InR h) (hle : ts.length ≤ c) (hb : ts.length ≤ 4398046511104) : RepT I (.agg #[.int .i64 h, .slice ad ts.length c]) (.mk h ts) := by
  have hex : ∃ ss : Nat → Option Addr × Nat, ∀ i (h : i < ts.length), xs[i * 2]? = some (.int .i64 ts[i].head) ∧ xs[i * 2 + 1]? = some (.slice (ss i).1 ts[i].args.length (ss i).2) ∧ RepT I (.agg #[.int .i64 ts[i].head, .slice (ss i).1 ts[i].args.length (ss i).2]) ts[i] := by
    classical
    exact ⟨fun i => if h : i < ts.length then (hr.2 i h).choose else (none, 0), fun i hi => by simp only [dif_pos hi]; exact (hr.2 i hi).choose_spec⟩
  obtain ⟨ss, hss⟩ := hex
  refine RepT.intro ss hh hle hb (fun i hi => hc.at _ fun j v hj => ?_) (fun i hi => (hss i hi).2.2)
  rcases j with _ | _ | j
  · simp at hj; subst hj; exact (hss i hi).1
  · simp at hj; subst hj; exact (hss i hi).2.1
  · simp at hj
/-- the cells of a term's arguments, as they lie -/
def rowsT : List T → (Nat → Option Addr × Nat) → List Value
  | [], _ => []
  | t :: ts, ss => .int .i64 t.head :: .slice (ss 0).1 t.args.length (ss 0).2 :: rowsT ts fun i => ss (i + 1)
theorem rowsT_length : ∀ (ts : List T) (ss : Nat → Option Addr × Nat), (rowsT ts ss).length = ts.length * 2
  | [], _ => rfl
  | t :: ts, ss => by simp [rowsT, rowsT_length ts]; omega
theorem rowsT_at : ∀ (ts : List T) (ss : Nat → Option Addr × Nat) (i : Nat) (h : i < ts.length), (rowsT ts ss)[i * 2]? = some (.int .i64 ts[i].head) ∧ (rowsT ts ss)[i * 2 + 1]? = some (.slice (ss i).1 ts[i].args.length (ss i).2)
  | [], _, i, h => by simp at h
  | t :: ts, ss, 0, _ => ⟨rfl, rfl⟩
  | t :: ts, ss, i + 1, h => by
    have := rowsT_at ts (fun i => ss (i + 1)) i (by simpa using h)
    have e1 : (i + 1) * 2 = i * 2 + 1 + 1 := by omega
    simpa [rowsT, e1] using this
theorem RowT.of {I : Imm} {ad : Option Addr} {ss : Nat → Option Addr × Nat} {ts : List T} (hat : ∀ i (h : i < ts.length), At I ad (i * 2) [.int .i64 ts[i].head, .slice (ss i).1 ts[i].args.length (ss i).2]) (hsub : ∀ i (h : i < ts.length), RepT I (.agg #[.int .i64 ts[i].head, .slice (ss i).1 ts[i].args.length (ss i).2]) ts[i]) :
    Cells I ad (rowsT ts ss) ∧ RowT I (rowsT ts ss) ts := by
  refine ⟨fun j v hj => ?_, rowsT_length ts ss, fun i hi => ⟨ss i, (rowsT_at ts ss i hi).1, (rowsT_at ts ss i hi).2, hsub i hi⟩⟩
  have hlt : j < ts.length * 2 := by rw [← rowsT_length ts ss]; exact (List.getElem?_eq_some_iff.1 hj).1
  have hi : j / 2 < ts.length := by omega
  have h1 := rowsT_at ts ss (j / 2) hi
  have h2 := hat (j / 2) hi
  rcases Nat.mod_two_eq_zero_or_one j with e | e
  · have ej : j / 2 * 2 = j := by omega
    rw [ej] at h1
    rw [h1.1] at hj
    have := h2 0 v (by simpa using hj)
    rwa [Nat.add_zero, ej] at this
  · have ej : j / 2 * 2 + 1 = j := by omega
    rw [ej] at h1
    rw [h1.2] at hj
    have := h2 1 v (by simpa using hj)
    rwa [ej] at this
theorem rowsT_one : ∀ (ts : List T) (ss : Nat → Option Addr × Nat), ∀ u ∈ rowsT ts ss, u.oneCell' = true
  | [], _, u, hu => by simp [rowsT] at hu
  | t :: ts, ss, u, hu => by
    simp only [rowsT, List.mem_cons] at hu
    rcases hu with rfl | rfl | hu
    · rfl
    · rfl
    · exact rowsT_one ts _ u hu
theorem RepT.open {I : Imm} {h : Int} {ad : Option Addr} {n c : Nat} {t : T} (hv : RepT I (.agg #[.int .i64 h, .slice ad n c]) t) :
    h = t.head ∧ n = t.args.length ∧ InR t.head ∧ t.args.length ≤ c ∧ t.args.length ≤ 4398046511104 ∧ ∃ ss : Nat → Option Addr × Nat, (∀ i (h : i < t.args.length), At I ad (i * 2) [.int .i64 t.args[i].head, .slice (ss i).1 t.args[i].args.length (ss i).2]) ∧
      (∀ i (h : i < t.args.length), RepT I (.agg #[.int .i64 t.args[i].head, .slice (ss i).1 t.args[i].args.length (ss i).2]) t.args[i]) := by
  obtain ⟨h', ts⟩ := t
  obtain ⟨ad', c', ss, he, hr, hc, hb, hat, hsub⟩ := hv.elim
  simp at he
  obtain ⟨rfl, rfl, rfl, rfl⟩ := he
  exact ⟨rfl, rfl, hr, hc, hb, ss, hat, hsub⟩
theorem RepT.shape {I : Imm} {v : Value} {t : T} (h : RepT I v t) : ∃ ad c, v = .agg #[.int .i64 t.head, .slice ad t.args.length c] ∧ InR t.head := by
  obtain ⟨s, t, hr, hs⟩ := h
  obtain ⟨ad, c, ss, ts, hc, hb, hat, hrs, hsub⟩ := hs
  exact ⟨ad, c, rfl, hr⟩
theorem RepT.args {I : Imm} {s : Value} {t : T} {h : Int} (hv : RepT I (.agg #[.int .i64 h, s]) t) : RepS I s t.args := by
  generalize e : Value.agg #[.int .i64 h, s] = v at hv
  obtain ⟨s', t, hr, hs⟩ := hv
  have e' : h = t.head ∧ s = s' := by simpa using e
  rw [e'.2]; exact hs

theorem RInts.take {I : Imm} {ad : Option Addr} {c h : Nat} {xs : List Int} (hc : xs.length ≤ c) (hb : xs.length ≤ 17592186044416) (hat : Cells I ad (xs.map (Value.int .i64))) (hr : ∀ y ∈ xs, InR y) (hh : h ≤ xs.length) :
    RInts I (.slice ad h c) (xs.take h) := by
  have e : (xs.take h).length = h := by rw [List.length_take]; omega
  have := RInts.mk (I := I) ad c (xs.take h) (by omega) (by omega) (fun j v hj => hat j v (by
    rw [List.map_take] at hj
    rw [List.getElem?_take] at hj
    split at hj
    · exact hj
    · cases hj)) (fun y hy => hr y (List.mem_of_mem_take hy))
  rwa [e] at this
def zeroT : T := .mk 0 []
theorem zeroT_rep (I : Imm) : RepT I (.agg #[.int .i64 0, .slice none 0 0]) zeroT := RepT.mk _ (.mk 0 []) (by unfold InR; simp [T.head]) (RepS.nil I)

theorem bool_t {p : Prop} [Decidable p] (h : p) : outV [.bool true] = .bool (decide p) := by simp [outV, h]
theorem bool_f {p : Prop} [Decidable p] (h : ¬ p) : outV [.bool false] = .bool (decide p) := by simp [outV, h]
theorem bool_b {a b : Bool} (h : a = b) : outV [.bool a] = .bool b := by simp [outV, h]
end Go.Proofs.Ytdbadicpbmndbaa
/- Plain facts on terms. No condition. -/
set_option linter.unusedVariables false
set_option linter.unusedSimpArgs false
namespace Go.Proofs.Ytdbadicpbmndbaa

mutual
def T.size : T → Nat
  | .mk _ ars => 1 + sizeL ars
def sizeL : List T → Nat
  | [] => 0
  | t :: r => t.size + sizeL r
end
theorem T.size_pos (t : T) : 1 ≤ t.size := by cases t; simp [T.size]
theorem sizeL_drop (ars : List T) (k : Nat) (h : k < ars.length) : sizeL (ars.drop k) = ars[k].size + sizeL (ars.drop (k + 1)) := by
  rw [List.drop_eq_getElem_cons h]; simp [sizeL]
theorem sizeL_mem : ∀ (ars : List T) (k : Nat) (h : k < ars.length), ars[k].size ≤ sizeL ars
  | t :: r, 0, _ => by simp [sizeL]
  | t :: r, k + 1, h => by
    have := sizeL_mem r k (by simpa using h)
    simp [sizeL]; omega
theorem sizeL_len : ∀ (ars : List T), ars.length ≤ sizeL ars
  | [] => by simp [sizeL]
  | t :: r => by have := sizeL_len r; have := t.size_pos; simp [sizeL]; omega

def ordI (a b : Int) : Int := if a < b then -1 else if a > b then 1 else 0
mutual
def cmpT : T → T → Int
  | .mk h ars, .mk g bs =>
    if 1 + sizeL ars ≠ 1 + sizeL bs then ordI (1 + sizeL ars : Nat) (1 + sizeL bs : Nat)
    else if h ≠ g then ordI h g
    else if ars.length ≠ bs.length then ordI ars.length bs.length
    else cmpL ars bs
def cmpL : List T → List T → Int
  | a :: ars, b :: bs => if cmpT a b ≠ 0 then cmpT a b else cmpL ars bs
  | _, _ => 0
end
theorem ordI_zero {a b : Int} (h : ordI a b = 0) : a = b := by
  unfold ordI at h
  split at h
  · omega
  · split at h <;> omega
mutual
theorem cmpT_zero : ∀ (a b : T), cmpT a b = 0 → a = b
  | .mk h ars, .mk g bs, e => by
    unfold cmpT at e
    split at e
    · have := ordI_zero e; omega
    · split at e
      · exact absurd (ordI_zero e) (by assumption)
      · split at e
        · have := ordI_zero e; omega
        · rename_i h1 h2 h3
          have h2' : h = g := by omega
          have h3' : ars.length = bs.length := by omega
          rw [h2', cmpL_zero ars bs h3' e]
theorem cmpL_zero : ∀ (a b : List T), a.length = b.length → cmpL a b = 0 → a = b
  | [], [], _, _ => rfl
  | [], _ :: _, h, _ => by simp at h
  | _ :: _, [], h, _ => by simp at h
  | a :: ars, b :: bs, h, e => by
    unfold cmpL at e
    split at e
    · rename_i hne; exact absurd e hne
    · rename_i h0
      have h0' : cmpT a b = 0 := by omega
      rw [cmpT_zero a b h0', cmpL_zero ars bs (by simpa using h) e]
end
mutual
theorem cmpT_self : ∀ (a : T), cmpT a a = 0
  | .mk h ars => by simp [cmpT, cmpL_self ars]
theorem cmpL_self : ∀ (a : List T), cmpL a a = 0
  | [] => by simp [cmpL]
  | a :: ars => by simp [cmpL, cmpT_self a, cmpL_self ars]
end
theorem cmpT_eq (a b : T) : cmpT a b = 0 ↔ a = b := ⟨cmpT_zero a b, fun h => by subst h; exact cmpT_self a⟩
/-- the part at a place -/
def atT : T → List Int → Option T
  | t, [] => some t
  | t, x :: r => if h : 0 ≤ x ∧ x.toNat < t.args.length then atT (t.args[x.toNat]'h.2) r else none
instance : DecidableEq T := fun a b => if h : cmpT a b = 0 then .isTrue ((cmpT_eq a b).1 h) else .isFalse fun e => h ((cmpT_eq a b).2 e)
theorem sizeL_app (a b : List T) : sizeL (a ++ b) = sizeL a + sizeL b := by
  induction a with
  | nil => simp [sizeL]
  | cons x r ih => simp [sizeL, ih]; omega

theorem sizeL_take (l : List T) (k : Nat) (h : k < l.length) : sizeL (l.take (k + 1)) = sizeL (l.take k) + l[k].size := by
  rw [List.take_succ_eq_append_getElem h, sizeL_app]; simp [sizeL]
end Go.Proofs.Ytdbadicpbmndbaa
/- The rules of the logic for a range over a function. No condition. -/
set_option linter.unusedVariables false
set_option linter.unusedSimpArgs false
namespace Go.Proofs.Ytdbadicpbmndbaa.Lg
open Go Go.RowKit

/-! ### iterators -/
/-- A function that, called with yield, calls yield once for each element in turn, and then returns. -/
def Iter (P : Program) (f : FuncId) (caps : List Value) (I : Imm) (δi : List Ent) {α : Type} (enc : Imm → α → List Value → Prop) (xs : List α) : Prop :=
  ∀ (yv : Value) (J : List α → Imm → List Ent → Prop) (δ : List Ent), (∀ l I1 I2 δ, I1.le I2 → J l I1 δ → J l I2 δ) → J [] I δ →
    (∀ pre x post I' δ' vs, xs = pre ++ x :: post → I.le I' → J pre I' δ' → enc I' x vs → FDoes P yv vs I' δ' (fun v I'' δ'' => v = .bool true ∧ J (pre ++ [x]) I'' δ'')) →
    Does P f (yv :: caps) I (δi ++ δ) (fun _ I' δ' => ∃ δ1, J xs I' δ1 ∧ δ' = δi ++ δ1)

def bindP : List Nat → List Value → Env → Env
  | p :: ps, v :: vs, σ => bindP ps vs ((p, v) :: σ)
  | _, _, σ => σ
theorem bindP_ok {n : Nat} : ∀ (ps : List Nat) (vs : List Value) (σ : Env) (tmps : Array Value), ps.all (fun p => Nat.blt p n) = true → tmps.size = n → (∀ d v, look d σ = some v → tmps[d]? = some v) →
    ((ps.zip vs).foldl (fun (ts : Array Value) (x : Nat × Value) => ts.setIfInBounds x.1 x.2) tmps).size = n ∧ ∀ d v, look d (bindP ps vs σ) = some v → ((ps.zip vs).foldl (fun (ts : Array Value) (x : Nat × Value) => ts.setIfInBounds x.1 x.2) tmps)[d]? = some v
  | [], _, σ, tmps, _, hs, h => ⟨by simpa using hs, fun d v hd => by simpa [bindP] using h d v (by simpa [bindP] using hd)⟩
  | p :: ps, [], σ, tmps, _, hs, h => ⟨by simpa using hs, fun d v hd => by simpa using h d v (by simpa [bindP] using hd)⟩
  | p :: ps, v :: vs, σ, tmps, hp, hs, h => by
    simp only [List.all_cons, Bool.and_eq_true, Nat.blt_eq] at hp
    simp only [List.zip_cons_cons, List.foldl_cons, bindP]
    refine bindP_ok ps vs ((p, v) :: σ) (tmps.setIfInBounds p v) hp.2 (by simp [hs]) (fun d u hd => ?_)
    rw [look_cons] at hd
    by_cases e : p = d
    · subst e
      simp at hd
      subst hd
      simp [hs, hp.1]
    · simp [e] at hd
      rw [Array.getElem?_setIfInBounds_ne e]
      exact h d u hd

/-- Behind the assignments of a round: the record is busy; the body. -/
def Begun (C : Ctx) (l : Nat) (body : Code) (R : Ending → World → Prop) : Exit → Act → World → Prop :=
  Exit.then (fun a₁ w₁ => ∃ w₂, (Instr.beginRound l).run C.P w₁ = .ok () w₂ ∧ body.wpIn C.F 0 C.P (roundPost C.P l R) a₁ w₂) (fun _ _ _ => False)

variable {C : Ctx} {Q : Exit → Act → World → Prop} {σ : Env} {ds : List Nat} {I : Imm} {δ δ' : List Ent}

theorem post_begin {l : Nat} {body : Code} {R : Ending → World → Prop} {r : Loop} (hr : r.state = .ready) (hs : Swap δ (.obj l (.loop r)) δ' (.obj l (.loop { r with state := .busy })))
    (h : CodeJ C body (roundPost C.P l R) σ ds I δ') : PostJ C (Begun C l body R) .normal σ ds I δ := by
  intro a w he hsat ht
  obtain ⟨x, y, h1, h2⟩ := hs.split
  have hw : w.heap[l]? = some (.loop r) := hsat.ents (.obj l (.loop r)) (by rw [h1]; simp)
  have hlt : l < w.heap.size := (Array.getElem?_eq_some_iff.1 hw).1
  obtain ⟨s', t'⟩ := hsat.swap (w' := w.putObj l (.loop { r with state := .busy })) hs rfl rfl rfl (by simp [World.putObj])
    (fun b _ hb => World.putObj_heap_other (fun e => hb (by rw [e]; rfl))) (show (w.putObj l (.loop { r with state := .busy })).heap[l]? = some (.loop { r with state := .busy }) by simp [World.putObj, hlt]) (fun b hb => .inl hb)
  exact ⟨_, run_beginRound hw hr, h _ _ he s' (ht.trans t')⟩

/-- The end of a round's body. -/
theorem post_round {l : Nat} {r : Loop} {w0 : World} {I0 : Imm} {δ0 : List Ent} {R : Value → Imm → List Ent → Prop} (hs : Swap δ (.obj l (.loop { r with state := .busy })) δ' (.obj l (.loop r))) (hr : r.state = .ready) (hp : r.pending = none) (hR : R (.bool true) I δ') (h0 : C.w0 = w0 ∧ C.I0 = I0 ∧ C.δ0 = δ0 := by exact ⟨rfl, rfl, rfl⟩) :
    PostJ C (roundPost C.P l (Ret w0 I0 δ0 R)) .normal σ ds I δ := by
  intro a w he hsat ht
  obtain ⟨rfl, rfl, rfl⟩ := h0
  obtain ⟨x, y, h1, h2⟩ := hs.split
  have hw : w.heap[l]? = some (.loop { r with state := .busy }) := hsat.ents (.obj l (.loop { r with state := .busy })) (by rw [h1]; simp)
  have hlt : l < w.heap.size := (Array.getElem?_eq_some_iff.1 hw).1
  have hrr : ({ { r with state := LoopState.busy } with state := if (none : Option Code).isNone then .ready else .done, pending := none } : Loop) = r := by
    cases r; simp at hr hp; subst hr; subst hp; rfl
  have hend := run_endRound (P := C.P) none hw
  rw [hrr] at hend
  obtain ⟨s', t'⟩ := hsat.swap (w' := w.putObj l (.loop r)) hs rfl rfl rfl (by simp [World.putObj])
    (fun b _ hb => World.putObj_heap_other (fun e => hb (by rw [e]; rfl))) (show (w.putObj l (.loop r)).heap[l]? = some (.loop r) by simp [World.putObj, hlt]) (fun b hb => .inl hb)
  exact ⟨_, _, hend, .bool true, I, δ', rfl, s', ht.trans t', hR⟩

/-- yield, out of a round's walk. -/
theorem yield_does {P : Program} {n l : Nat} {r : Loop} {ps : List Nat} {vs : List Value} {σ : Env} {R : Value → Imm → List Ent → Prop} (hps : r.params = ps.toArray) (hall : ps.all (fun p => Nat.blt p n) = true) (hlen : vs.length = ps.length)
    (hsz : r.tmps.size = n) (hσ : ∀ d v, look d σ = some v → r.tmps[d]? = some v) (hm : Has δ (.obj l (.loop r)))
    (h : ∀ w0, CodeJ ⟨P, some l, n, w0, I, δ⟩ r.assign (Begun ⟨P, some l, n, w0, I, δ⟩ l r.body (Ret w0 I δ R)) (bindP ps vs σ) [] I δ) : FDoes P (.func (.yield l) #[] #[]) vs I δ R := by
  intro w hs
  have hw : w.heap[l]? = some (.loop r) := hs.ents (.obj l (.loop r)) hm.mem
  have hy := run_yield (P := P) (args := vs.toArray) hw (by simp [hps, hlen])
  obtain ⟨h1, h2⟩ := bindP_ok ps vs σ r.tmps hall hsz hσ
  have hfold : (r.params.zip vs.toArray).foldl (fun (tmps : Array Value) (x : Nat × Value) => match x with | (t, a) => tmps.setIfInBounds t a) r.tmps = (ps.zip vs).foldl (fun (ts : Array Value) (x : Nat × Value) => ts.setIfInBounds x.1 x.2) r.tmps := by
    rw [hps]; simp
  rw [← hfold] at h1 h2
  generalize hT : (r.params.zip vs.toArray).foldl (fun (tmps : Array Value) (x : Nat × Value) => match x with | (t, a) => tmps.setIfInBounds t a) r.tmps = ts at hy h1 h2
  refine ⟨{ target := .fn (.yield l) #[], args := vs.toArray }, by simp [Deferred.ofValue], .inr ⟨l, r.fn, ts, r.assign, r.body, hy, ?_⟩⟩
  exact roundIn_of_wpIn trivial (h w { tmps := ts, defers := [] } w ⟨h1, h2, rfl⟩ hs (Tr.refl _ _ _))

/-- The statement. -/
theorem code_range {α : Type} {g : Operand} {ps : List Nat} {assign body : Code} {f : FuncId} {caps : List Value} {enc : Imm → α → List Value → Prop} {xs : List α} {δb δi δr : List Ent} (B : List α → Imm → List Ent → Prop)
    (hr : C.r = none) (hg : evS σ g = some (.func (.func f) #[] caps.toArray)) (hpl : Plainf C.P f = true) (hall : ps.all (fun p => Nat.blt p C.n) = true) (hit : Iter C.P f caps I δi enc xs) (hp : Parts δ (δi ++ δb) δr) (h0 : B [] I δb)
    (hlen : ∀ I x vs, enc I x vs → vs.length = ps.length) (hB : ∀ l I1 I2 δ, I1.le I2 → B l I1 δ → B l I2 δ)
    (round : ∀ (l : Nat) (r : Loop) (w0 : World) pre x post I' δ' vs, r.state = .ready → r.pending = none → xs = pre ++ x :: post → I.le I' → B pre I' δ' → enc I' x vs →
      CodeJ ⟨C.P, some l, C.n, w0, I', .obj l (.loop r) :: δ'⟩ assign (Begun ⟨C.P, some l, C.n, w0, I', .obj l (.loop r) :: δ'⟩ l body (Ret w0 I' (.obj l (.loop r) :: δ') (fun v I'' δ'' => v = .bool true ∧ ∃ δ2, δ'' = .obj l (.loop r) :: δ2 ∧ B (pre ++ [x]) I'' δ2))) (bindP ps vs σ) [] I' (.obj l (.loop r) :: δ'))
    (k : ∀ blk I' δ', I.le I' → B xs I' δ' → PostJ C Q .normal σ (blk :: ds) I' (.obj blk (.deferred (some [])) :: ((δi ++ δ') ++ δr))) :
    CodeJ C (.rangeFunc g ps.toArray assign body) Q σ ds I δ := by
  intro a w he hs ht
  have hF : C.F = Fence.wide := wideNone hr
  rw [hF]
  refine wpIn_rangeFunc fun fn _ => ?_
  have hs1 := hs.perm hp
  have ht1 := ht.permR hp
  let r : Loop := { state := .ready, pending := none, fn := fn, tmps := a.tmps, params := ps.toArray, assign := assign, body := body, defers := w.heap.size }
  obtain ⟨s1, t1⟩ := hs1.alloc (.obj w.heap.size (.deferred (some []))) (.deferred (some [])) rfl (heap_alloc_new w _)
  obtain ⟨s2, t2⟩ := s1.alloc (.obj (w.alloc (.deferred (some []))).heap.size (.loop r)) (.loop r) rfl (heap_alloc_new _ _)
  have hl : (w.alloc (.deferred (some []))).heap.size = w.heap.size + 1 := by simp
  rw [hl] at s2 t2
  have ht2 := (ht1.trans t1).trans t2
  have hperm : (Ent.obj (w.heap.size + 1) (.loop r) :: Ent.obj w.heap.size (.deferred (some [])) :: ((δi ++ δb) ++ δr)).Perm ((δi ++ (.obj (w.heap.size + 1) (.loop r) :: δb)) ++ (.obj w.heap.size (.deferred (some [])) :: δr)) := by
    refine List.Perm.trans (List.Perm.cons _ List.perm_middle.symm) ?_
    rw [← List.cons_append]
    exact List.Perm.append_right _ List.perm_middle.symm
  have s3 := s2.perm hperm
  have ht3 := ht2.permR hperm
  let yv : Value := .func (.yield (w.heap.size + 1)) #[] #[]
  have hsub : Sat ((w.alloc (.deferred (some []))).alloc (.loop r)) I (δi ++ (.obj (w.heap.size + 1) (.loop r) :: δb)) := by
    have hb : blks ((δi ++ (.obj (w.heap.size + 1) (.loop r) :: δb)) ++ (.obj w.heap.size (.deferred (some [])) :: δr)) = blks (δi ++ (.obj (w.heap.size + 1) (.loop r) :: δb)) ++ blks (.obj w.heap.size (.deferred (some [])) :: δr) := List.filterMap_append
    have hnd := s3.nodup
    rw [hb, List.nodup_append] at hnd
    exact ⟨s3.imm, fun y hy => s3.ents y (List.mem_append_left _ hy), hnd.1, fun b hb1 => s3.apart b (by rw [hb]; exact List.mem_append_left _ hb1)⟩
  have hcall := hit yv (fun pre I' δ' => ∃ δ2, δ' = .obj (w.heap.size + 1) (.loop r) :: δ2 ∧ B pre I' δ2) (.obj (w.heap.size + 1) (.loop r) :: δb) (fun l I1 I2 δ hle ⟨δ2, h1, h2⟩ => ⟨δ2, h1, hB l I1 I2 δ2 hle h2⟩) ⟨δb, rfl, h0⟩ (fun pre x post I' δ' vs hx hI hB hv => by
    obtain ⟨δ2, rfl, hB⟩ := hB
    exact yield_does (r := r) rfl hall (hlen _ _ _ hv) he.size he.val Has.here (fun w0 => round _ r w0 pre x post I' δ2 vs rfl rfl hx hI hB hv))
  refine ⟨w.heap.size + 1, [{ target := .collected w.heap.size, args := #[] }], (w.alloc (.deferred (some []))).alloc (.loop r), { target := .fn (.func f) caps.toArray, args := #[yv] }, (w.alloc (.deferred (some []))).alloc (.loop r), f, (yv :: caps).toArray, (w.alloc (.deferred (some []))).alloc (.loop r), run_enterLoop_outer fn a.tmps ps.toArray assign body, ?_, fun _ _ => trivial, ?_, fun h => (by simp [Fence.wide] at h), ?_⟩
  · have hev := he.ev hg
    have hc : a.eval (.const (.func (.yield (w.heap.size + 1)) #[] #[])) = yv := rfl
    simp [resolve, hev, hc, Deferred.ofValue]
  · simp only [invoke]
    rw [run_callFunc hpl]
    simp
  · refine CallsIn.mono ((callsIn_wide (n := 0 - 1)).2 (hcall _ hsub)) ?_
    rintro e w3 ⟨v, I', δ', rfl, hs3, ht3', δ1, ⟨δ2, rfl, hB⟩, rfl⟩
    obtain ⟨f1, f2⟩ := frame s3 hs3 ht3'
    have hw3 : w3.heap[w.heap.size + 1]? = some (.loop r) := f1.ents (.obj (w.heap.size + 1) (.loop r)) (by simp)
    refine ⟨none, w3.putObj (w.heap.size + 1) (.loop { r with state := .exhausted }), run_endLoop hw3 (by simp [r]), ?_⟩
    have hlt : w.heap.size + 1 < w3.heap.size := (Array.getElem?_eq_some_iff.1 hw3).1
    have hperm1 : ((δi ++ (Ent.obj (w.heap.size + 1) (.loop r) :: δ2)) ++ (Ent.obj w.heap.size (.deferred (some [])) :: δr)).Perm (.obj (w.heap.size + 1) (.loop r) :: ((δi ++ δ2) ++ (.obj w.heap.size (.deferred (some [])) :: δr))) := by
      rw [← List.cons_append]
      exact List.Perm.append_right _ List.perm_middle
    replace f1 := f1.perm hperm1
    replace f2 := f2.permR hperm1
    obtain ⟨s4, t4⟩ := f1.swap (w' := w3.putObj (w.heap.size + 1) (.loop { r with state := .exhausted })) (x' := .obj (w.heap.size + 1) (.loop { r with state := .exhausted })) .here rfl rfl rfl (by simp [World.putObj])
      (fun b _ hb => World.putObj_heap_other (fun e => hb (by rw [e]; rfl))) (show (w3.putObj (w.heap.size + 1) (.loop { r with state := .exhausted })).heap[w.heap.size + 1]? = some (.loop { r with state := .exhausted }) by simp [World.putObj, hlt]) (fun b hb => .inl hb)
    have ht5 := ((ht3.trans f2).trans t4).trans s4.drop.2
    have hs5 := s4.drop.1
    have hperm2 : ((δi ++ δ2) ++ (Ent.obj w.heap.size (.deferred (some [])) :: δr)).Perm (.obj w.heap.size (.deferred (some [])) :: ((δi ++ δ2) ++ δr)) := List.perm_middle
    exact k w.heap.size I' δ2 f2.imm hB _ _ ⟨he.size, he.val, by simp [he.defers, marksOf]⟩ (hs5.perm hperm2) (ht5.permR hperm2)

/-! ### loops whose rounds leave marks -/
def AgainD (C : Ctx) (Inv : Nat → Env → List Nat → Imm → List Ent → Prop) (m : Nat) : Act → World → Prop := fun a w =>
  ∃ m' σ' ds' I' δ', m' < m ∧ Inv m' σ' ds' I' δ' ∧ EnvOK C.n σ' ds' a ∧ Sat w I' δ' ∧ Tr C.w0 C.I0 C.δ0 w I' δ'
theorem code_loopD {c : Code} (Inv : Nat → Env → List Nat → Imm → List Ent → Prop) (m0 : Nat) (σ0 : Env) (h0 : Inv m0 σ0 ds I δ) (hsub : SubEnv σ0 σ)
    (round : ∀ m σ' ds' I' δ', Inv m σ' ds' I' δ' → CodeJ C c (Exit.then (AgainD C Inv m) Q) σ' ds' I' δ') : CodeJ C (.loop c) Q σ ds I δ := by
  intro a w he hs ht
  let J : Nat → Act → World → Prop := fun m a w => ∃ σ' ds' I' δ', Inv m σ' ds' I' δ' ∧ EnvOK C.n σ' ds' a ∧ Sat w I' δ' ∧ Tr C.w0 C.I0 C.δ0 w I' δ'
  have key : ∀ m a w, J m a w → (Code.loop c).wpIn C.F 0 C.P Q a w := by
    classical
    intro m a w hJ
    refine wpIn_loop (fun a w => ∃ m, J m a w) (fun a w => if h : ∃ m, J m a w then (least h).choose else 0) ⟨m, hJ⟩ ?_
    intro a1 w1 hex
    obtain ⟨σ', ds', I', δ', hi, he', hs', ht'⟩ := (least hex).choose_spec.1
    refine wpIn_mono (round _ σ' ds' I' δ' hi a1 w1 he' hs' ht') ?_
    intro e a2 w2 hq
    cases e with
    | normal =>
      obtain ⟨m', σ2, ds2, I2, δ2, hlt, hi2, he2, hs2, ht2⟩ := hq
      have hex2 : ∃ m, J m a2 w2 := ⟨m', σ2, ds2, I2, δ2, hi2, he2, hs2, ht2⟩
      refine ⟨hex2, ?_⟩
      simp only [dif_pos hex, dif_pos hex2]
      exact Nat.lt_of_le_of_lt ((least hex2).choose_spec.2 _ ⟨σ2, ds2, I2, δ2, hi2, he2, hs2, ht2⟩) hlt
    | exit id => exact hq
    | goto l => exact hq
    | ret => exact hq
    | panic ch => exact hq
    | outgrown => exact hq
  exact key m0 a w ⟨σ0, ds, I, δ, h0, he.sub hsub, hs, ht⟩
theorem post_againD {Inv : Nat → Env → List Nat → Imm → List Ent → Prop} {m : Nat} (m' : Nat) (σ' : Env) (hlt : m' < m) (hi : Inv m' σ' ds I δ) (hsub : SubEnv σ' σ) :
    PostJ C (Exit.then (AgainD C Inv m) Q) .normal σ ds I δ :=
  fun _ _ he hs ht => ⟨m', σ', ds, I, δ, hlt, hi, he.sub hsub, hs, ht⟩

/-! ### rows of one's own: read, and made shorter -/
theorem v_loadRow {t e : TypeId} {x : Operand} {A : Option Addr} {m c size n k i : Nat} {agg : Bool} {xs : List Value} {v : Value} (ht : Ty C.P t agg k) (hx : evS σ x = some (pa A i)) (hh : Has δ (.row (.slice A m c) e size n xs)) (hA : A.isSome = true)
    (hv : ld agg k (xs.drop i) = some v) : ValJ C σ ds I δ (.load t x) v :=
  fun _ _ _ _ _ => (fun a w he hs => by
    obtain ⟨a0, rfl⟩ := Option.isSome_iff_exists.1 hA
    have hr : w.ownsRow 0 e size (.slice (some a0) m c) n xs := hs.ents _ hh.mem
    obtain ⟨g, rfl⟩ : ∃ g, a0 = ⟨g, 0, none⟩ := by
      rcases hr.2 with ⟨he, _⟩ | ⟨g, cap, cur, he, _⟩
      · cases he
      · exact ⟨g, by injection he with he; injection he⟩
    obtain ⟨us, hl, rfl, hu⟩ := ld_spec hv ht.one
    have hadd : (⟨g, 0, none⟩ : Addr).add i = ⟨g, i, none⟩ := by rw [add_plain]; simp
    have := run_loadAt ht (w := w) (a := ⟨g, i, none⟩) hl (fun j v hj => by
      have h1 := hu j v hj
      rw [List.getElem?_drop] at h1
      have h2 := hr.cells (g := g) rfl (i + j) v h1
      rw [add_plain]
      rw [add_plain] at h2
      simpa using h2)
    simp [execOp, he.ev hx, pa, hadd, this])
theorem View.short {e : TypeId} {size n h c : Nat} {A : Option Addr} {xs : List Value} (δ' : List Ent) (hd : Swap δ (.row (.slice A n c) e size n xs) δ' (.row (.slice A h c) e size h (xs.take (h * size)))) (hh : h ≤ n) : View I δ I δ' := fun w hs => by
  obtain ⟨l, r, rfl, rfl⟩ := hd.split
  have hrow : w.ownsRow 0 e size (.slice A n c) n xs := hs.ents (.row (.slice A n c) e size n xs) (by simp)
  have hb : blks (l ++ .row (.slice A n c) e size n xs :: r) = blks (l ++ .row (.slice A h c) e size h (xs.take (h * size)) :: r) := by
    simp only [blks, List.filterMap_append, List.filterMap_cons]
    cases A <;> rfl
  have hnew : w.ownsRow 0 e size (.slice A h c) h (xs.take (h * size)) := by
    obtain ⟨hl, hx⟩ := hrow
    have hle : h * size ≤ n * size := Nat.mul_le_mul_right _ hh
    refine ⟨by rw [List.length_take, hl]; omega, ?_⟩
    rcases hx with ⟨he, hn⟩ | ⟨g, cap, cur, he, h1, h2, h3, h4, h5, h6⟩
    · cases he
      exact .inl ⟨by have : h = 0 := by omega
                     rw [this], by omega⟩
    · cases he
      exact .inr ⟨g, c, cur, rfl, h1, h2, by omega, h4, h5, by rw [← h6, List.take_take, Nat.min_eq_left hle]⟩
  refine ⟨⟨hs.imm, fun y hy => ?_, hb ▸ hs.nodup, hb ▸ hs.apart⟩, ⟨rfl, rfl, rfl, Nat.le_refl _, fun _ _ _ => rfl, Imm.le_refl _, fun b o h1 h2 => (by rw [h1] at h2; cases h2), fun b hb1 => .inl (hb ▸ hb1)⟩⟩
  rcases List.mem_append.1 hy with hy | hy
  · exact hs.ents y (List.mem_append_left _ hy)
  · rcases List.mem_cons.1 hy with rfl | hy
    · exact hnew
    · exact hs.ents y (List.mem_append_right _ (List.mem_cons_of_mem _ hy))
end Go.Proofs.Ytdbadicpbmndbaa.Lg
/- Plain facts on the parts of a term, with their depths. No condition. -/
set_option linter.unusedVariables false
set_option linter.unusedSimpArgs false
namespace Go.Proofs.Ytdbadicpbmndbaa
open Go Lg

mutual
def partsT : Nat → T → List (Nat × T)
  | d, .mk h ts => (d, .mk h ts) :: partsL (d + 1) ts
def partsL : Nat → List T → List (Nat × T)
  | _, [] => []
  | d, t :: r => partsT d t ++ partsL d r
end
mutual
theorem partsT_length : ∀ (d : Nat) (t : T), (partsT d t).length = t.size
  | d, .mk h ts => by simp [partsT, T.size, partsL_length (d + 1) ts]; omega
theorem partsL_length : ∀ (d : Nat) (ts : List T), (partsL d ts).length = sizeL ts
  | _, [] => rfl
  | d, t :: r => by simp [partsL, sizeL, partsT_length d t, partsL_length d r]
end
mutual
theorem partsT_deep : ∀ (d : Nat) (t : T) (x : Nat × T), x ∈ partsT d t → x.1 + x.2.size ≤ d + t.size
  | d, .mk h ts, x, hx => by
    simp only [partsT, List.mem_cons] at hx
    rcases hx with rfl | hx
    · simp
    · have := partsL_deep (d + 1) ts x hx; simp [T.size]; omega
theorem partsL_deep : ∀ (d : Nat) (ts : List T) (x : Nat × T), x ∈ partsL d ts → x.1 + x.2.size ≤ d + sizeL ts
  | _, [], x, hx => by simp [partsL] at hx
  | d, t :: r, x, hx => by
    simp only [partsL, List.mem_append] at hx
    rcases hx with hx | hx
    · have := partsT_deep d t x hx; simp [sizeL]; omega
    · have := partsL_deep d r x hx; simp [sizeL]; omega
end
/-- what a stack of terms still has to tell -/
def partsS (st : List (Nat × T)) : List (Nat × T) := st.reverse.flatMap fun x => partsT x.1 x.2
theorem partsS_snoc (st : List (Nat × T)) (x : Nat × T) : partsS (st ++ [x]) = partsT x.1 x.2 ++ partsS st := by simp [partsS]
theorem partsS_app (st us : List (Nat × T)) : partsS (st ++ us) = partsS us ++ partsS st := by simp [partsS]
theorem partsL_eq : ∀ (d : Nat) (ts : List T), partsL d ts = (ts.map fun t => (d, t)).flatMap fun x => partsT x.1 x.2
  | _, [] => rfl
  | d, t :: r => by simp [partsL, partsL_eq d r]
/-- the arguments, the last one first -/
def kids (d : Nat) (ts : List T) (l : List Nat) : List (Nat × T) := l.map fun i => (d, ts.getD i zeroT)
theorem map_range_getD (ts : List T) : (List.range ts.length).map (fun i => ts.getD i zeroT) = ts := by
  apply List.ext_getElem
  · simp
  · intro i h1 h2; simp at h1; simp [h1]
theorem partsS_kids (d : Nat) (ts : List T) : partsS (kids d ts (List.range ts.length).reverse) = partsL d ts := by
  rw [partsL_eq, partsS, kids, ← List.map_reverse, List.reverse_reverse]
  congr 1
  have : (fun i => (d, ts.getD i zeroT)) = (fun t => (d, t)) ∘ (fun i => ts.getD i zeroT) := rfl
  rw [this, ← List.map_map, map_range_getD]
theorem partsS_len (st : List (Nat × T)) : st.length ≤ (partsS st).length := by
  have key : ∀ l : List (Nat × T), l.length ≤ (l.flatMap fun x => partsT x.1 x.2).length := fun l => by
    induction l with
    | nil => simp
    | cons x r ih => have := x.2.size_pos; simp [partsT_length] at ih ⊢; omega
  have := key st.reverse
  simpa [partsS] using this
theorem range_rev (n k : Nat) (h : k < n) : (List.range n).reverse = (List.range n).reverse.take k ++ (n - 1 - k) :: (List.range n).reverse.drop (k + 1) := by
  have hl : k < (List.range n).reverse.length := by simpa using h
  have hk : (List.range n).reverse[k] = n - 1 - k := by simp [List.getElem_reverse]
  rw [← hk]
  have h1 := List.take_append_drop k (List.range n).reverse
  rw [List.drop_eq_getElem_cons hl] at h1
  exact h1.symm
theorem range_rev_take (n k : Nat) (h : k < n) : (List.range n).reverse.take (k + 1) = (List.range n).reverse.take k ++ [n - 1 - k] := by
  have hl : k < (List.range n).reverse.length := by simpa using h
  have hk : (List.range n).reverse[k] = n - 1 - k := by simp [List.getElem_reverse]
  rw [List.take_succ_eq_append_getElem hl, hk]

/-- cells of terms with their depths, one behind the other -/
def RowK (I : Imm) (xs : List Value) (st : List (Nat × T)) : Prop :=
  xs.length = st.length * 3 ∧ ∀ i (h : i < st.length), ∃ s : Option Addr × Nat, xs[i * 3]? = some (.int .i64 st[i].2.head) ∧ xs[i * 3 + 1]? = some (.slice s.1 st[i].2.args.length s.2) ∧ xs[i * 3 + 2]? = some (.int .i64 st[i].1) ∧
    RepT I (.agg #[.int .i64 st[i].2.head, .slice s.1 st[i].2.args.length s.2]) st[i].2
theorem RowK.mono {I J : Imm} {xs : List Value} {st : List (Nat × T)} (h : RowK I xs st) (hl : I.le J) : RowK J xs st :=
  ⟨h.1, fun i hi => let ⟨s, h1, h2, h3, h4⟩ := h.2 i hi; ⟨s, h1, h2, h3, h4.mono hl⟩⟩
theorem RowK.one {I : Imm} {d : Nat} {t : T} {a : Option Addr} {c : Nat} (h : RepT I (.agg #[.int .i64 t.head, .slice a t.args.length c]) t) : RowK I [.int .i64 t.head, .slice a t.args.length c, .int .i64 d] [(d, t)] :=
  ⟨rfl, fun i hi => by
    have : i = 0 := by simp at hi; omega
    subst this
    exact ⟨(a, c), rfl, rfl, rfl, h⟩⟩
theorem RowK.app {I : Imm} {xs ys : List Value} {ts us : List (Nat × T)} (h : RowK I xs ts) (k : RowK I ys us) : RowK I (xs ++ ys) (ts ++ us) := by
  refine ⟨by simp [h.1, k.1]; omega, fun i hi => ?_⟩
  by_cases hlt : i < ts.length
  · obtain ⟨s, h1, h2, h3, h4⟩ := h.2 i hlt
    have e : (ts ++ us)[i] = ts[i] := List.getElem_append_left hlt
    rw [e]
    exact ⟨s, by rw [List.getElem?_append_left (by rw [h.1]; omega)]; exact h1, by rw [List.getElem?_append_left (by rw [h.1]; omega)]; exact h2, by rw [List.getElem?_append_left (by rw [h.1]; omega)]; exact h3, h4⟩
  · have hi' : i - ts.length < us.length := by simp at hi; omega
    obtain ⟨s, h1, h2, h3, h4⟩ := k.2 (i - ts.length) hi'
    have e : (ts ++ us)[i] = us[i - ts.length] := List.getElem_append_right (by omega)
    rw [e]
    refine ⟨s, ?_, ?_, ?_, h4⟩
    · rw [List.getElem?_append_right (by rw [h.1]; omega), h.1, ← h1]; congr 1; omega
    · rw [List.getElem?_append_right (by rw [h.1]; omega), h.1, ← h2]; congr 1; omega
    · rw [List.getElem?_append_right (by rw [h.1]; omega), h.1, ← h3]; congr 1; omega
theorem RowK.take {I : Imm} {xs : List Value} {ts : List (Nat × T)} {x : Nat × T} (h : RowK I xs (ts ++ [x])) : RowK I (xs.take (ts.length * 3)) ts := by
  refine ⟨by rw [List.length_take, h.1]; simp only [List.length_append, List.length_cons, List.length_nil]; omega, fun i hi => ?_⟩
  obtain ⟨s, h1, h2, h3, h4⟩ := h.2 i (by simp; omega)
  have e : (ts ++ [x])[i]'(by simp; omega) = ts[i] := List.getElem_append_left hi
  rw [e] at h1 h2 h3 h4
  exact ⟨s, by rw [List.getElem?_take_of_lt (by omega)]; exact h1, by rw [List.getElem?_take_of_lt (by omega)]; exact h2, by rw [List.getElem?_take_of_lt (by omega)]; exact h3, h4⟩
theorem RowK.last {I : Imm} {xs : List Value} {ts : List (Nat × T)} {x : Nat × T} (h : RowK I xs (ts ++ [x])) :
    ∃ s : Option Addr × Nat, ld true 3 (xs.drop (ts.length * 3)) = some (.agg #[.int .i64 x.2.head, .slice s.1 x.2.args.length s.2, .int .i64 x.1]) ∧ RepT I (.agg #[.int .i64 x.2.head, .slice s.1 x.2.args.length s.2]) x.2 := by
  obtain ⟨s, h1, h2, h3, h4⟩ := h.2 ts.length (by simp)
  have e : (ts ++ [x])[ts.length]'(by simp) = x := by simp
  rw [e] at h1 h2 h3 h4
  refine ⟨s, ?_, h4⟩
  obtain ⟨l1, e1⟩ := List.getElem?_eq_some_iff.1 h1
  obtain ⟨l2, e2⟩ := List.getElem?_eq_some_iff.1 h2
  obtain ⟨l3, e3⟩ := List.getElem?_eq_some_iff.1 h3
  rw [List.drop_eq_getElem_cons l1, List.drop_eq_getElem_cons l2, List.drop_eq_getElem_cons l3, e1, e2, e3]
  rfl
end Go.Proofs.Ytdbadicpbmndbaa
/- The rules of the logic for maps whose keys are whole numbers. No condition. -/
set_option linter.unusedVariables false
set_option linter.unusedSimpArgs false
namespace Go.Proofs.Ytdbadicpbmndbaa.Lg
open Go Go.RowKit

/-! ### entries -/
def mget : Mp → Int → Option Value
  | [], _ => none
  | (k', v) :: r, k => if k' = k then some v else mget r k
def mput : Mp → Int → Value → Mp
  | [], k, v => [(k, v)]
  | (k', u) :: r, k, v => if k' = k then (k, v) :: r else (k', u) :: mput r k v

theorem mget_mput : ∀ (xs : Mp) (k j : Int) (v : Value), mget (mput xs k v) j = if k = j then some v else mget xs j
  | [], k, j, v => by simp [mput, mget]
  | (k', z) :: r, k, j, v => by
    by_cases h : k' = k
    · subst h; simp only [mput, if_true, mget]; split <;> rfl
    · simp only [mput, if_neg h, mget, mget_mput r k j v]
      by_cases h2 : k' = j
      · subst h2; simp [Ne.symm h]
      · simp [h2]
theorem mput_keys : ∀ (xs : Mp) (k : Int) (v : Value), (mput xs k v).map (·.1) = if mget xs k = none then xs.map (·.1) ++ [k] else xs.map (·.1)
  | [], k, v => by simp [mput, mget]
  | (k', z) :: r, k, v => by
    by_cases h : k' = k
    · subst h; simp [mput, mget]
    · simp only [mput, if_neg h, mget, List.map_cons, mput_keys r k v]
      split <;> simp
theorem mget_none : ∀ {xs : Mp} {k : Int}, mget xs k = none ↔ k ∉ xs.map (·.1)
  | [], k => by simp [mget]
  | (k', z) :: r, k => by
    by_cases h : k' = k
    · subst h; simp [mget]
    · have := mget_none (xs := r) (k := k)
      simp only [mget, if_neg h, this, List.map_cons, List.mem_cons, not_or]
      exact ⟨fun h2 => ⟨fun e => h e.symm, h2⟩, fun h2 => h2.2⟩
theorem mget_mem : ∀ {xs : Mp} {k : Int} {v : Value}, (xs.map (·.1)).Nodup → ((k, v) ∈ xs ↔ mget xs k = some v)
  | [], k, v, _ => by simp [mget]
  | (k', z) :: r, k, v, hn => by
    simp only [List.map_cons, List.nodup_cons] at hn
    by_cases h : k' = k
    · subst h
      simp only [mget, if_true, List.mem_cons, Prod.mk.injEq, true_and, Option.some.injEq]
      constructor
      · rintro (h | h)
        · exact h.symm
        · exact absurd (List.mem_map_of_mem (f := (·.1)) h) hn.1
      · intro h; exact .inl h.symm
    · have := mget_mem (xs := r) (k := k) (v := v) hn.2
      simp only [mget, if_neg h, ← this, List.mem_cons, Prod.mk.injEq]
      constructor
      · rintro (⟨h2, _⟩ | h2)
        · exact absurd h2.symm h
        · exact h2
      · intro h2; exact .inr h2
theorem mput_nodup {xs : Mp} {k : Int} {v : Value} (h : (xs.map (·.1)).Nodup) : ((mput xs k v).map (·.1)).Nodup := by
  rw [mput_keys]
  split
  · rename_i hn
    rw [mget_none] at hn
    rw [List.nodup_append]
    exact ⟨h, by simp, fun a ha b hb => by simp at hb; subst hb; exact fun e => hn (e ▸ ha)⟩
  · exact h
/-- Where a key stands. -/
theorem find_mp : ∀ (l : List MapEntry) (xs : Mp) (k : Int) (i : Nat), l.map (fun e => (e.key, e.val)) = xs.map (fun p => (Value.int .i64 p.1, p.2)) →
    (mget xs k = none ∧ Instr.findNow (.int .i64) (.int .i64 k) l i = some none ∧ ∀ v, mput xs k v = xs ++ [(k, v)]) ∨
    ∃ j v e, mget xs k = some v ∧ Instr.findNow (.int .i64) (.int .i64 k) l i = some (some (i + j, v)) ∧ l[j]? = some e ∧ e.key = .int .i64 k ∧ e.val = v ∧ ∀ u, mput xs k u = xs.set j (k, u)
  | [], xs, k, i, h => by
    have : xs = [] := by cases xs <;> simp_all
    subst this
    exact .inl ⟨rfl, rfl, fun _ => rfl⟩
  | e :: l, [], k, i, h => by simp at h
  | e :: l, (k', z) :: r, k, i, h => by
    simp only [List.map_cons, List.cons.injEq, Prod.mk.injEq] at h
    obtain ⟨⟨h1, h2⟩, h3⟩ := h
    by_cases hk : k' = k
    · subst hk
      refine .inr ⟨0, z, e, by simp [mget], ?_, rfl, h1, h2, fun u => by simp [mput]⟩
      simp [Instr.findNow, Instr.sameNow, h1, h2]
    · have hs : Instr.sameNow (.int .i64) (.int .i64 k) e.key = some false := by
        rw [h1]; simp [Instr.sameNow]; exact fun e => hk e.symm
      rcases find_mp l r k (i + 1) h3 with ⟨g1, g2, g3⟩ | ⟨j, v, e', g1, g2, g3, g4, g5, g6⟩
      · exact .inl ⟨by simp [mget, hk, g1], by simp [Instr.findNow, hs, g2], fun v => by simp [mput, hk, g3]⟩
      · refine .inr ⟨j + 1, v, e', by simp [mget, hk, g1], ?_, by simpa using g3, g4, g5, fun u => by simp [mput, hk, g6]⟩
        simp only [Instr.findNow, hs, g2]
        congr 3; omega

variable {C : Ctx} {Q : Exit → Act → World → Prop} {σ : Env} {ds : List Nat} {I : Imm} {δ : List Ent} {ops : Array Oper} {rest : List Oper}
variable {d : Nat} {ty : TypeId} {pos : String} {after : Array Edge}

theorem run_zero {P : Program} {e : TypeId} {z : Value} (hz : (P.info? e).map (·.zero) = some (some z)) (w : World) : (zeroValue e).run P w = .ok z w := by
  cases hq : P.info? e with
  | none => simp [hq] at hz
  | some i => simp [hq] at hz; simp [zeroValue, typeInfo, program, Sem.run, hq, hz]

/-! ### a new map -/
theorem o_makeMap {t : TypeId} (hd : Nat.blt d C.n = true) (k : ∀ b, OpsJ C ops Q rest ((d, .map (some b)) :: σ) ds I (.map b [] :: δ)) :
    OpsJ C ops Q ({ dst := some d, op := .makeMap t none, type := ty, pos := pos, after := after, guard := none } :: rest) σ ds I δ :=
  op_step rfl rfl hd (by intro c hc; cases hc) (fun a w he hs => by
    obtain ⟨s', t'⟩ := hs.alloc (.map w.heap.size []) (.map #[] 0) rfl ⟨#[], 0, heap_alloc_new w _, by simp, by simp, by simp, by simp⟩
    refine ⟨_, _, _, _, ?_, s', t', k w.heap.size⟩
    simp [execOp, Instr.makeMap, newObj, Sem.run])

/-! ### reading -/
theorem run_lookup {P : Program} {t kt e : TypeId} (ht : P.underlying t = some (.map kt e)) (hk : P.underlying kt = some (.int .i64)) {z : Value} (hz : (P.info? e).map (·.zero) = some (some z)) {w : World} {b : Nat} {xs : Mp} (h : (Ent.map b xs).holds w) (k : Int) (ok : Bool) :
    (Instr.lookup t (.map (some b)) (.int .i64 k) ok).run P w = .ok (if ok then .tuple #[(mget xs k).getD z, .bool (mget xs k).isSome] else (mget xs k).getD z) w := by
  obtain ⟨es, clock, hb, hm⟩ := h
  have hu : (underlying t).run P w = .ok (.map kt e) w := by simp [underlying, program, Sem.run, ht]
  have hc : (Instr.checkKey es.isEmpty 10000 kt (.int .i64 k)).run P w = .ok () w := MapKept.run_checkKey (w := w) hk (k := .int .i64 k) rfl es.isEmpty 9999
  rcases find_mp es.toList xs k 0 hm.kv with ⟨g1, g2, _⟩ | ⟨j, v, e', g1, g2, _⟩
  · have hf := MapKept.run_findKey (w := w) hk g2
    simp [Instr.lookup, hu, MapKept.run_getObj_map hb, Result.andThen]
    rw [hc]
    simp [hf, run_zero hz, g1]
  · have hf := MapKept.run_findKey (w := w) hk g2
    simp [Instr.lookup, hu, MapKept.run_getObj_map hb, Result.andThen]
    rw [hc]
    simp [hf, run_zero hz, g1]

theorem v_mlook2 {t kt e : TypeId} {x y : Operand} {b : Nat} {xs : Mp} {k : Int} {z v : Value} {g : Bool} (ht : C.P.underlying t = some (.map kt e)) (hk : C.P.underlying kt = some (.int .i64)) (hz : (C.P.info? e).map (·.zero) = some (some z))
    (hx : evS σ x = some (.map (some b))) (hy : evS σ y = some (.int .i64 k)) (hh : Has δ (.map b xs)) (hv : (mget xs k).getD z = v) (hg : (mget xs k).isSome = g) : ValJ C σ ds I δ (.lookup t x y true) (.tuple #[v, .bool g]) :=
  fun _ _ _ _ _ a w he hs => by subst hv; subst hg; simp [execOp, he.ev hx, he.ev hy, run_lookup ht hk hz (hs.ents _ hh.mem) k true]
theorem v_mlen {t kt e : TypeId} {x : Operand} {b : Nat} {xs : Mp} (ht : C.P.underlying t = some (.map kt e)) (hx : evS σ x = some (.map (some b))) (hh : Has δ (.map b xs)) :
    ValJ C σ ds I δ (.call { callee := .builtin .len, args := #[x], argTypes := #[t] }) (.int .i64 xs.length) :=
  fun _ _ _ _ _ a w he hs => by
    obtain ⟨es, clock, hb, hm⟩ := hs.ents _ hh.mem
    have hu : (underlying t).run C.P w = .ok (.map kt e) w := by simp [underlying, program, Sem.run, ht]
    have hl : es.size = xs.length := by have := congrArg List.length hm.kv; simpa using this
    simp [execOp, resolve, invoke, builtin, Builtin.len_, he.ev hx, hu, goInt, MapKept.run_getObj_map hb, hl]

/-! ### writing -/
theorem keyStays {P : Program} (k : Int) (w : World) : (Instr.keyThatStays (.int .i64 k) (.int .i64 k)).run P w = .ok (.int .i64 k) w := MapKept.run_keyThatStays (d := .int .i64) rfl

theorem MapIs.set {es : Array MapEntry} {clock : Nat} {xs : Mp} (h : MapIs es clock xs) {j : Nat} {e : MapEntry} {k : Int} {v : Value} (he : es.toList[j]? = some e) (hk : e.key = .int .i64 k) (f : MapEntry → MapEntry) (hf : (f e).key = .int .i64 k ∧ (f e).val = v ∧ (f e).born = e.born) (hp : mput xs k v = xs.set j (k, v)) :
    MapIs (es.modify j f) clock (mput xs k v) := by
  have hlt : j < es.size := by simpa using (List.getElem?_eq_some_iff.1 he).1
  have hm : (es.modify j f).toList = es.toList.set j (f e) := by
    apply List.ext_getElem?
    intro i
    rw [Array.getElem?_toList, Array.getElem?_modify, List.getElem?_set]
    have h2 : es[j]? = some e := by simpa using he
    by_cases hij : j = i
    · subst hij
      obtain ⟨_, he'⟩ := Array.getElem?_eq_some_iff.1 h2
      simp [hlt, he']
    · simp [hij]
  refine ⟨?_, mput_nodup h.keys, ?_, ?_⟩
  · rw [hm, hp, List.map_set, List.map_set, h.kv, hf.1, hf.2.1]
  · rw [hm, List.map_set, hf.2.2]
    have : (es.toList.map (·.born)).set j e.born = es.toList.map (·.born) := by
      apply List.ext_getElem?
      intro i
      rw [List.getElem?_set]
      by_cases hij : j = i
      · subst hij
        have : (es.toList.map (·.born))[j]? = some e.born := by rw [List.getElem?_map, he]; rfl
        rw [this]; simp [hlt]
      · simp [hij]
    rw [this]; exact h.born
  · intro x hx
    rw [hm] at hx
    rcases List.mem_or_eq_of_mem_set hx with hx | rfl
    · exact h.old x hx
    · rw [hf.2.2]; exact h.old e (List.mem_of_getElem? he)

theorem MapIs.push {es : Array MapEntry} {clock : Nat} {xs : Mp} (h : MapIs es clock xs) {k : Int} {v : Value} (hn : mget xs k = none) (hp : mput xs k v = xs ++ [(k, v)]) :
    MapIs (es.push { key := .int .i64 k, val := v, born := clock }) (clock + 1) (mput xs k v) := by
  refine ⟨by rw [hp]; simp [h.kv], mput_nodup h.keys, ?_, ?_⟩
  · rw [Array.toList_push, List.map_append, List.nodup_append]
    refine ⟨h.born, by simp, fun a ha b hb => ?_⟩
    simp at hb
    obtain ⟨x, hx, rfl⟩ := List.mem_map.1 ha
    have := h.old x hx
    intro e; omega
  · intro x hx
    rw [Array.toList_push, List.mem_append] at hx
    rcases hx with hx | hx
    · have := h.old x hx; omega
    · simp at hx; subst hx; simp

theorem o_mapUpdate {t kt e : TypeId} {m x y : Operand} {b : Nat} {xs ys : Mp} {k : Int} {v : Value} {δ' : List Ent} (ht : C.P.underlying t = some (.map kt e)) (hk : C.P.underlying kt = some (.int .i64))
    (hm : evS σ m = some (.map (some b))) (hx : evS σ x = some (.int .i64 k)) (hy : evS σ y = some v) (hys : mput xs k v = ys) (hh : Swap δ (.map b xs) δ' (.map b ys)) (kk : OpsJ C ops Q rest σ ds I δ') :
    OpsJ C ops Q ({ dst := none, op := .mapUpdate t m x y, type := ty, pos := pos, after := after, guard := none } :: rest) σ ds I δ :=
  op_act rfl rfl (by intro c hc; cases hc) (fun a w he hs => by
    subst hys
    obtain ⟨l, r, hl1, hl2⟩ := hh.split
    obtain ⟨es, clock, hb, hmi⟩ := hs.ents (.map b xs) (by rw [hl1]; simp)
    have hu : (underlying t).run C.P w = .ok (.map kt e) w := by simp [underlying, program, Sem.run, ht]
    have hc : (Instr.checkKey false 10000 kt (.int .i64 k)).run C.P w = .ok () w := MapKept.run_checkKey (w := w) hk (k := .int .i64 k) rfl false 9999
    rcases find_mp es.toList xs k 0 hmi.kv with ⟨g1, g2, g3⟩ | ⟨j, v0, e', g1, g2, g3, g4, g5, g6⟩
    · have hf := MapKept.run_findKey (w := w) hk g2
      have hset := MapKept.heap_set (o' := .map (es.push { key := .int .i64 k, val := v, born := clock }) (clock + 1)) hb
      obtain ⟨s', t'⟩ := hs.swap (w' := { w with heap := w.heap.setIfInBounds b (.map (es.push { key := .int .i64 k, val := v, born := clock }) (clock + 1)) }) hh rfl rfl rfl (by simp) (fun c _ hc => hset.2 c (fun e => hc (by rw [e]; rfl))) ⟨_, _, hset.1, hmi.push g1 (g3 v)⟩ (fun c hc => .inl hc)
      refine ⟨_, I, δ', ?_, s', t', kk⟩
      simp [execOp, he.ev hm, he.ev hx, he.ev hy, Instr.mapUpdate, hu, MapKept.run_getObj_map hb, hc, hf, MapKept.run_setObj_map _ hb, Result.andThen]
    · have hf := MapKept.run_findKey (w := w) hk g2
      simp only [Nat.zero_add] at hf
      have h2 : es[j]? = some e' := by simpa using g3
      have hset := MapKept.heap_set (o' := .map (es.modify j fun e => { e with key := .int .i64 k, val := v }) clock) hb
      obtain ⟨s', t'⟩ := hs.swap (w' := { w with heap := w.heap.setIfInBounds b (.map (es.modify j fun e => { e with key := .int .i64 k, val := v }) clock) }) hh rfl rfl rfl (by simp) (fun c _ hc => hset.2 c (fun e => hc (by rw [e]; rfl))) ⟨_, _, hset.1, hmi.set g3 g4 _ ⟨rfl, rfl, rfl⟩ (g6 v)⟩ (fun c hc => .inl hc)
      refine ⟨_, I, δ', ?_, s', t', kk⟩
      simp [execOp, he.ev hm, he.ev hx, he.ev hy, Instr.mapUpdate, hu, MapKept.run_getObj_map hb, hc, hf, h2, g4, keyStays, MapKept.run_setObj_map _ hb, Result.andThen])

/-! ### a range over a map that the rounds leave as it is -/
/-- What is still to come. -/
structure LeftM (es : Array MapEntry) (clock since : Nat) (seen : Array Nat) (c0 : Nat) (xs left : Mp) : Prop where
  is : MapIs es clock xs
  old : ∀ x ∈ es.toList, x.born < since
  sc : since ≤ c0
  sk : since ≤ clock
  kv : (leftOf es seen).toList.map (fun e => (e.key, e.val)) = left.map (fun p => (Value.int .i64 p.1, p.2))
  c0 : c0 = clock

/-! ### a store into a row of one's own -/
theorem o_storeRow {t e : TypeId} {x y : Operand} {A : Option Addr} {m c size n off q : Nat} {agg : Bool} {xs vs xs' : List Value} {v : Value} {δ' : List Ent} (ht : Ty C.P t agg q) (hx : evS σ x = some (pa A off)) (hy : evS σ y = some v) (hA : A.isSome = true)
    (hv : cellsL v = vs) (hvn : Nat.beq vs.length q = true) (h1 : vs.all (·.oneCell') = true) (hne : vs ≠ []) (hh : Swap δ (.row (.slice A m c) e size n xs) δ' (.row (.slice A m c) e size n xs')) (hst : stL xs off vs = some xs') (k : OpsJ C ops Q rest σ ds I δ') :
    OpsJ C ops Q ({ dst := none, op := .store t x y, type := ty, pos := pos, after := after, guard := none } :: rest) σ ds I δ :=
  op_act rfl rfl (by intro c hc; cases hc) (fun a w he hs => by
    obtain ⟨l, r, hl1, hl2⟩ := hh.split
    obtain ⟨a0, rfl⟩ := Option.isSome_iff_exists.1 hA
    have hrow : w.ownsRow 0 e size (.slice (some a0) m c) n xs := hs.ents (.row (.slice (some a0) m c) e size n xs) (by rw [hl1]; simp)
    obtain ⟨hlen, hr⟩ := hrow
    rcases hr with ⟨hr, _⟩ | ⟨g, cap, cur, hr, hbase, hw, hnc, hcm, hcs, htk⟩
    · cases hr
    injection hr with e1 e2 e3
    injection e1 with e1
    subst e1; subst e2; subst e3
    have hw' : w.heap[g]? = some (.cells cur.toList.toArray e (0, 0)) := by simpa using hw
    obtain ⟨_, h3, h4, h5⟩ := stL_spec _ _ _ _ hst
    have hle := h4 hne
    have hxl : xs.length ≤ cur.toList.length := by rw [← htk, List.length_take]; omega
    have hn : vs.length = q := Nat.eq_of_beq_eq_true hvn
    have hsz : (sizeOf t).run C.P w = .ok q w := by
      have h := ht.size
      cases hq : C.P.info? t with
      | none => simp [hq] at h
      | some i => simp [hq] at h; simp [sizeOf, typeInfo, program, Sem.run, hq, h]
    subst hn
    have hall : ∀ u ∈ vs, u.oneCell' = true := by simpa using h1
    obtain ⟨w', hrun, g1, g2, g3, g4, g5, cs2, g6, g7, g8⟩ := run_storeCells (P := C.P) vs off 0 cur.toList w hw' (by omega) hall
    have hnew : (Ent.row (.slice (some ⟨g, 0, none⟩) m c) e size m xs').holds w' := by
      refine ⟨by rw [h3]; exact hlen, .inr ⟨g, c, cs2.toArray, rfl, hbase, g6, hnc, hcm, by simp [g7, hcs], ?_⟩⟩
      apply List.ext_getElem?
      intro j
      rw [h5 j, List.getElem?_take]
      by_cases hj : j < m * size
      · rw [if_pos hj]
        simp only [Nat.add_zero] at g8
        rw [show (cs2.toArray.toList)[j]? = cs2[j]? from rfl, g8 j]
        split
        · rfl
        · rw [← htk, List.getElem?_take, if_pos hj]
      · rw [if_neg hj]
        have : ¬ (off ≤ j ∧ j < off + vs.length) := by omega
        rw [if_neg this]
        symm
        rw [List.getElem?_eq_none_iff]; omega
    obtain ⟨s', t'⟩ := hs.swap hh g1 g2 g3 (by omega) (fun k _ hk => g5 k (fun e => hk (by rw [e]; rfl))) hnew (fun k hk => .inl hk)
    refine ⟨w', I, δ', ?_, s', t', k⟩
    have hadd : (⟨g, 0, none⟩ : Addr).add off = ⟨g, off, none⟩ := by rw [add_plain]; simp
    simp [execOp, he.ev hx, he.ev hy, pa, hadd, Instr.storeAt, Instr.sureAddr, storeVar, hsz, cellsL_cells, hv, hrun])
end Go.Proofs.Ytdbadicpbmndbaa.Lg
/- The rules of the logic for rows of one's own that are cut, cleared and laid out ahead. No condition. -/
set_option linter.unusedVariables false
set_option linter.unusedSimpArgs false
namespace Go.Proofs.Ytdbadicpbmndbaa.Lg
open Go Go.RowKit

variable {C : Ctx} {Q : Exit → Act → World → Prop} {σ : Env} {ds : List Nat} {I : Imm} {δ : List Ent} {ops : Array Oper} {rest : List Oper}
variable {d : Nat} {ty : TypeId} {pos : String} {after : Array Edge}

theorem v_slice3 {t e : TypeId} {x y z u : Operand} {ad : Option Addr} {n c l h m size : Nat} (ht : C.P.underlying t = some (.slice e)) (hsz : (C.P.info? e).map (·.size) = some size)
    (hx : evS σ x = some (.slice ad n c)) (hy : evS σ y = some (.int .i64 (l : Int))) (hz : evS σ z = some (.int .i64 (h : Int))) (hu' : evS σ u = some (.int .i64 (m : Int))) (h1 : l ≤ h) (h2 : h ≤ m) (h3 : m ≤ c) :
    ValJ C σ ds I δ (.slice t x (some y) (some z) (some u)) (.slice (cutAt ad m l size) (h - l) (m - l)) :=
  fun _ _ _ _ _ a w he _ => by
    have hu : (underlying t).run C.P w = .ok (.slice e) w := by simp [underlying, program, Sem.run, ht]
    cases hq : C.P.info? e with
    | none => simp [hq] at hsz
    | some inf =>
      simp [hq] at hsz
      simp [execOp, he.ev hx, he.ev hy, he.ev hz, he.ev hu', Instr.sliceAt, Instr.slice, Instr.sliceBounds, Instr.sliceBound, asIntOf, hu, sizeOf, typeInfo, program, Sem.run, hq, hsz, h1, h2, h3, cutAt]
theorem v_slice2 {t e : TypeId} {x y z : Operand} {ad : Option Addr} {n c l h size : Nat} (ht : C.P.underlying t = some (.slice e)) (hsz : (C.P.info? e).map (·.size) = some size)
    (hx : evS σ x = some (.slice ad n c)) (hy : evS σ y = some (.int .i64 (l : Int))) (hz : evS σ z = some (.int .i64 (h : Int))) (h1 : l ≤ h) (h2 : h ≤ c) :
    ValJ C σ ds I δ (.slice t x (some y) (some z) none) (.slice (cutAt ad c l size) (h - l) (c - l)) :=
  fun _ _ _ _ _ a w he _ => by
    have hu : (underlying t).run C.P w = .ok (.slice e) w := by simp [underlying, program, Sem.run, ht]
    cases hq : C.P.info? e with
    | none => simp [hq] at hsz
    | some inf =>
      simp [hq] at hsz
      simp [execOp, he.ev hx, he.ev hy, he.ev hz, Instr.sliceAt, Instr.slice, Instr.sliceBounds, Instr.sliceBound, asIntOf, hu, sizeOf, typeInfo, program, Sem.run, hq, hsz, h1, h2, cutAt]

theorem row_short {w : World} {e : TypeId} {size n h c : Nat} {A : Option Addr} {xs : List Value} (hrow : w.ownsRow 0 e size (.slice A n c) n xs) (hh : h ≤ n) : w.ownsRow 0 e size (.slice A h c) h (xs.take (h * size)) := by
  obtain ⟨hl, hx⟩ := hrow
  have hle : h * size ≤ n * size := Nat.mul_le_mul_right _ hh
  refine ⟨by rw [List.length_take, hl]; omega, ?_⟩
  rcases hx with ⟨he, hn⟩ | ⟨g, cap, cur, he, h1, h2, h3, h4, h5, h6⟩
  · cases he
    exact .inl ⟨by have : h = 0 := by omega
                   rw [this], by omega⟩
  · cases he
    exact .inr ⟨g, c, cur, rfl, h1, h2, by omega, h4, h5, by rw [← h6, List.take_take, Nat.min_eq_left hle]⟩

theorem append_inplace {P : Program} {t ty e : TypeId} {size : Nat} (ht : P.underlying t = some (.slice e)) (hsz : (P.info? e).map (·.size) = some size) {A B : Option Addr} {i c m c2 : Nat} (hle : i + m ≤ c) {w w' : World} {v' : Value}
    (hr : (Builtin.append_ #[t, t] ty #[.slice A i c, .slice B m c2]).run P w = .ok v' w') : v' = .slice A (i + m) c := by
  have hu : (underlying t).run P w = .ok (.slice e) w := by simp [underlying, program, Sem.run, ht]
  cases hq : P.info? e with
  | none => simp [hq] at hsz
  | some inf =>
    have hs : (sizeOf e).run P w = .ok inf.size w := by simp [sizeOf, typeInfo, program, Sem.run, hq]
    simp [Builtin.append_, hu, hs, Builtin.lenOf, hle] at hr
    cases hf : (Builtin.firstCells inf.size m (.slice B m c2)).run P w with
    | halt x w1 => simp [hf] at hr
    | ok new w1 =>
      simp [hf] at hr
      cases A with
      | none => simp at hr; exact hr.1.symm
      | some a =>
        simp at hr
        cases hst : (storeCells (a.add (i * inf.size)) new.toList).run P w1 with
        | halt x w2 => simp [hst] at hr
        | ok u w2 => simp [hst] at hr; exact hr.1.symm

/-- the front of a row, and what stands behind some place of it, in the same row -/
theorem o_appendSelf {t e : TypeId} {z : Value} {size bytes n i j m c c2 : Nat} {s x : Operand} {A : Option Addr} {xs : List Value} {G : List Ent} (ht : C.P.underlying t = some (.slice e)) (hb : (C.P.info? e).map (fun i => (i.zero, i.size, i.bytes)) = some (some z, size, bytes))
    (hs : evS σ s = some (.slice A i c)) (hx : evS σ x = some (.slice (cutAt A c j size) m c2)) (hd : Nat.blt d C.n = true) (hsw : Swap δ (.row (.slice A n c) e size n xs) G (.row (.slice A (i + m) c) e size (i + m) (xs.take (i * size) ++ (xs.drop (j * size)).take (m * size))))
    (hij : i ≤ j) (hjm : j + m ≤ n) (hnc : n ≤ c) (h1 : ∀ u ∈ xs, u.oneCell' = true) (hbd : n ≤ 4398046511104) (hby : n * bytes ≤ 140737488355328) (hA : A.isSome = true)
    (k : OpsJ C ops Q rest ((d, .slice A (i + m) c) :: σ) ds I G) (hz : z.cells.size = size := by rfl) (hsz : Nat.blt 0 size = true := by rfl) :
    OpsJ C ops Q ({ dst := some d, op := .call { callee := .builtin .append, args := #[s, x], argTypes := #[t, t] }, type := ty, pos := pos, after := after, guard := none } :: rest) σ ds I δ :=
  op_step rfl rfl hd (by intro c hc; cases hc) (fun a w he hsat => by
    have hsz' : 0 < size := by simpa [Nat.blt_eq] using hsz
    obtain ⟨l, r, hl1, _⟩ := hsw.split
    have hown : w.ownsRow 0 e size (.slice A n c) n xs := hsat.ents (.row (.slice A n c) e size n xs) (by rw [hl1]; simp)
    obtain ⟨a0, rfl⟩ := Option.isSome_iff_exists.1 hA
    obtain ⟨g, rfl⟩ : ∃ g, a0 = ⟨g, 0, none⟩ := by
      rcases hown.2 with ⟨he, _⟩ | ⟨g, cap, cur, he, _⟩
      · cases he
      · exact ⟨g, by injection he with he; injection he⟩
    have hshort := row_short hown (show i ≤ n by omega)
    obtain ⟨B, hB⟩ : ∃ B : Addr, cutAt (some ⟨g, 0, none⟩) c j size = some B := Option.isSome_iff_exists.1 (cutAt_isSome rfl)
    rw [hB] at hx
    have hxl := hown.1
    have hnl : ((xs.drop (j * size)).take (m * size)).length = m * size := by
      have : j * size + m * size ≤ n * size := by rw [← Nat.add_mul]; exact Nat.mul_le_mul_right _ hjm
      rw [List.length_take, List.length_drop]; omega
    have hread : ∀ q u, ((xs.drop (j * size)).take (m * size))[q]? = some u → w.cell? (B.add q) = some u := fun q u hq => by
      have hqm : q < m * size := by have := (List.getElem?_eq_some_iff.1 hq).1; omega
      have hm : 0 < m := by rcases Nat.eq_zero_or_pos m with h | h; (subst h; simp at hqm); exact h
      have hcj : ¬ c = j := by omega
      unfold cutAt at hB
      rw [if_neg hcj] at hB
      simp only [Option.map_some, Option.some.injEq] at hB
      subst hB
      rw [List.getElem?_take_of_lt hqm, List.getElem?_drop] at hq
      have h2 := hown.cells (g := g) rfl (j * size + q) u hq
      rw [add_add]; exact h2
    cases hq : C.P.info? e with
    | none => simp [hq] at hb
    | some inf =>
      simp [hq] at hb
      obtain ⟨hb1, hb2, hb3⟩ := hb
      have hbi : (i + m) * bytes ≤ n * bytes := Nat.mul_le_mul_right _ (by omega)
      obtain ⟨v', w', hr, hown', hg, _, hat⟩ := run_append_own_at (P := C.P) (w := w) 0 t ty e inf z size bytes ht hq hb1 hb2 hb3 hz hsz' _ i _ hshort B m c2 _ hnl hread (fun u hu => h1 u (List.mem_of_mem_drop (List.mem_of_mem_take hu))) (by simp only [maxLen]; omega) (by omega) (Nat.zero_le _)
      have hv' := append_inplace (size := size) ht (by rw [hq]; simp [hb2]) (show i + m ≤ c by omega) hr
      subst hv'
      obtain ⟨s', t'⟩ := hsat.swap hsw hg.os hg.tape hg.output hg.size (fun b hlt hne => hg.block b hlt (fun e => hne (show (some g : Option Nat) = some b from e.symm))) hown' (fun b hb => .inl hb)
      refine ⟨_, w', I, G, ?_, s', t', k⟩
      simp [execOp, resolve, invoke, builtin, he.ev hs, he.ev hx, hr])

/-- a step on the heap whose value nobody takes -/
theorem op_actv {o : Oper} (hg : o.guard = none) (hdst : o.dst = none) (hnd : ∀ c, o.op ≠ .defer c)
    (hrun : ∀ a w, EnvOK C.n σ ds a → Sat w I δ → ∃ v w' I' δ', (execOp a.eval o).run C.P w = .ok (.value v) w' ∧ Sat w' I' δ' ∧ Tr w I δ w' I' δ' ∧ OpsJ C ops Q rest σ ds I' δ') : OpsJ C ops Q (o :: rest) σ ds I δ := by
  intro a w he hs ht
  obtain ⟨v, w', I', δ', hr, s', t', k⟩ := hrun a w he hs
  refine wpListIn_plain hg fun K hK => ?_
  unfold Oper.wpIn
  refine ⟨fun _ _ => trivial, ?_⟩
  rw [semAt_eq _ _ _ hnd, hr, Oper.uponIn_value]
  refine hK _ _ ?_
  exact k _ _ (he.put' hdst _) s' (ht.trans t')

theorem has_swap {δ : List Ent} {x : Ent} (h : Has δ x) : Swap δ x δ x := by
  induction h with
  | here => exact Swap.here
  | there _ ih => exact Swap.there ih
/-- what stands behind a row, as far as there is room, is cleared -/
theorem o_clear {t e : TypeId} {z : Value} {size n m c c2 : Nat} {x : Operand} {A : Option Addr} {xs : List Value} (ht : C.P.underlying t = some (.slice e)) (hb : (C.P.info? e).map (fun i => (i.zero, i.size)) = some (some z, size)) (hz1 : z.cells.toList.all (·.oneCell') = true) (hzs : Nat.beq z.cells.size size = true)
    (hx : evS σ x = some (.slice (cutAt A c n size) m c2)) (hh : Has δ (.row (.slice A n c) e size n xs)) (hm : n + m ≤ c)
    (k : OpsJ C ops Q rest σ ds I δ) :
    OpsJ C ops Q ({ dst := none, op := .call { callee := .builtin .clear, args := #[x], argTypes := #[t] }, type := ty, pos := pos, after := after, guard := none } :: rest) σ ds I δ :=
  op_actv rfl rfl (by intro c hc; cases hc) (fun a w he hsat => by
    have hown : w.ownsRow 0 e size (.slice A n c) n xs := hsat.ents _ hh.mem
    have hu : (underlying t).run C.P w = .ok (.slice e) w := by simp [underlying, program, Sem.run, ht]
    have hzs' : z.cells.size = size := Nat.eq_of_beq_eq_true hzs
    rcases Nat.eq_zero_or_pos m with hm0 | hm0
    · subst hm0
      refine ⟨.tuple #[], w, I, δ, ?_, hsat, Tr.refl _ _ _, k⟩
      cases hq : cutAt A c n size <;> simp [execOp, resolve, invoke, builtin, Builtin.clear_, he.ev hx, hu, hq]
    · obtain ⟨hlen, hr⟩ := hown
      rcases hr with ⟨hr, hn0⟩ | ⟨g, cap, cur, hr, hbase, hw, hnc, hcm, hcs, htk⟩
      · cases hr; omega
      injection hr with e1 e2 e3
      subst e1; subst e3
      have hcn : ¬ c = n := by omega
      have hcut : cutAt (some ⟨g, 0, none⟩) c n size = some ⟨g, n * size, none⟩ := by
        unfold cutAt; rw [if_neg hcn]
        have hadd : (⟨g, 0, none⟩ : Addr).add (n * size) = ⟨g, n * size, none⟩ := by rw [add_plain]; simp
        simp [hadd]
      rw [hcut] at hx
      have hw' : w.heap[g]? = some (.cells cur.toList.toArray e (0, 0)) := by simpa using hw
      have hzl : (Builtin.zeroCells z.cells m).toList.length = m * size := by simp [Builtin.zeroCells, hzs']
      have hfit : n * size + m * size ≤ c * size := by rw [← Nat.add_mul]; exact Nat.mul_le_mul_right _ hm
      have hone : ∀ u ∈ (Builtin.zeroCells z.cells m).toList, u.oneCell' = true := fun u hu => by
        simp only [Builtin.zeroCells, Array.toList_map, List.mem_map] at hu
        obtain ⟨i, hi, rfl⟩ := hu
        have hlt : i % z.cells.size < z.cells.size := by
          apply Nat.mod_lt
          simp at hi
          rcases Nat.eq_zero_or_pos z.cells.size with h | h
          · rw [h] at hi; simp at hi
          · exact h
        have hz2 : ∀ u ∈ z.cells.toList, u.oneCell' = true := fun u hu => List.all_eq_true.1 hz1 u hu
        rw [getElem!_pos z.cells _ hlt]
        exact hz2 _ (by simp)
      obtain ⟨w', hrun, g1, g2, g3, g4, g5, cs2, g6, g7, g8⟩ := run_storeCells (P := C.P) (Builtin.zeroCells z.cells m).toList (n * size) 0 cur.toList w hw' (by rw [hzl]; simp [hcs]; omega) hone
      have hnew : (Ent.row (.slice (some ⟨g, 0, none⟩) n c) e size n xs).holds w' := by
        refine ⟨hlen, .inr ⟨g, c, cs2.toArray, rfl, hbase, g6, hnc, hcm, by simp [g7, hcs], ?_⟩⟩
        rw [← htk]
        apply List.ext_getElem?
        intro q
        rw [List.getElem?_take, List.getElem?_take]
        by_cases hqn : q < n * size
        · rw [if_pos hqn, if_pos hqn]
          rw [show (cs2.toArray.toList)[q]? = cs2[q]? from rfl, g8 q, if_neg (by omega)]
        · rw [if_neg hqn, if_neg hqn]
      obtain ⟨s', t'⟩ := hsat.swap (has_swap hh) g1 g2 g3 (by omega) (fun k _ hk => g5 k (fun e => hk (by rw [e]; rfl))) hnew (fun k hk => .inl hk)
      refine ⟨.tuple #[], w', I, δ, ?_, s', t', k⟩
      have hz : (C.P.info? e).map (·.zero) = some (some z) := by
        cases hq : C.P.info? e with
        | none => simp [hq] at hb
        | some inf => simp [hq] at hb; simp [hb.1]
      obtain ⟨m', rfl⟩ : ∃ m', m = m' + 1 := ⟨m - 1, by omega⟩
      simp [execOp, resolve, invoke, builtin, Builtin.clear_, he.ev hx, hu, run_zero hz, hrun])

end Go.Proofs.Ytdbadicpbmndbaa.Lg
/- The rules of the logic: a row that is made. No condition. -/
set_option linter.unusedVariables false
set_option linter.unusedSimpArgs false
namespace Go.Proofs.Ytdbadicpbmndbaa.Lg
open Go Go.RowKit

variable {C : Ctx} {Q : Exit → Act → World → Prop} {σ : Env} {ds : List Nat} {I : Imm} {δ : List Ent} {ops : Array Oper} {rest : List Oper}
variable {d : Nat} {ty : TypeId} {pos : String} {after : Array Edge}

theorem madeCells_one (v : Value) (n : Nat) : (madeCells #[v] n).toList = List.replicate n v := by
  apply List.ext_getElem
  · simp [size_madeCells]
  · intro i h1 h2
    simp [madeCells, Nat.mod_one]
/-- a row of nothings, of one's own -/
theorem o_makeSlice {t e : TypeId} {z : Value} {size bytes n : Nat} {x y : Operand} {xs : List Value} (ht : C.P.underlying t = some (.slice e)) (hb : (C.P.info? e).map (fun i => (i.zero, i.size, i.bytes)) = some (some z, size, bytes))
    (hx : evS σ x = some (.int .i64 (n : Int))) (hy : evS σ y = some (.int .i64 (n : Int))) (hd : Nat.blt d C.n = true) (hbd : n ≤ 4398046511104) (hby : bytes * n ≤ 281474976710656)
    (hxs : (madeCells z.cells (n * size)).toList = xs)
    (k : ∀ g, OpsJ C ops Q rest ((d, .slice (some ⟨g, 0, none⟩) n n) :: σ) ds I (.row (.slice (some ⟨g, 0, none⟩) n n) e size n xs :: δ)) :
    OpsJ C ops Q ({ dst := some d, op := .makeSlice t x y, type := ty, pos := pos, after := after, guard := none } :: rest) σ ds I δ :=
  op_step rfl rfl hd (by intro c hc; cases hc) (fun a w he hsat => by
    subst hxs
    cases hq : C.P.info? e with
    | none => simp [hq] at hb
    | some inf =>
      simp [hq] at hb
      obtain ⟨hb1, hb2, hb3⟩ := hb
      subst hb2
      have hmax : n ≤ maxLen := by simp only [maxLen]; omega
      have hr := run_make (P := C.P) w t e inf z ht hq hb1 .i64 .i64 n n (by omega) (Int.le_refl _) (by rw [hb3]; have : ((bytes * n : Nat) : Int) = (bytes : Int) * (n : Int) := Int.natCast_mul _ _; omega) (by omega)
      simp only [Int.toNat_natCast] at hr
      have hnew : (Ent.row (.slice (some ⟨w.heap.size, 0, none⟩) n n) e inf.size n (madeCells z.cells (n * inf.size)).toList).holds (w.alloc (.cells (madeCells z.cells (n * inf.size)) e)) := by
        refine ⟨by simp [size_madeCells], .inr ⟨w.heap.size, n, _, rfl, Nat.zero_le _, heap_alloc_new w _, Nat.le_refl _, hmax, size_madeCells _ _, List.take_of_length_le (by rw [Array.length_toList, size_madeCells]; exact Nat.le_refl _)⟩⟩
      obtain ⟨s', t'⟩ := hsat.alloc (.row (.slice (some ⟨w.heap.size, 0, none⟩) n n) e inf.size n (madeCells z.cells (n * inf.size)).toList) _ rfl hnew
      refine ⟨_, _, _, _, ?_, s', t', k w.heap.size⟩
      simp [execOp, he.ev hx, he.ev hy, hr])
theorem Imm.leA {I J : Imm} (h : I.le J := by repeat (first | exact Imm.le_refl _ | assumption | refine Imm.le_trans ?_ (by assumption))) : I.le J := h
/-! ### the same rules, with their side proofs searched for -/
theorem v_cmptA {op : BinOp} {t t' : TypeId} {x y : Operand} {a b : Int} {p : Prop} {ip : Decidable p} (hx : evS σ x = some (.int .i64 a)) (hy : evS σ y = some (.int .i64 b)) (hz : cmpI op a b = some (@decide p ip)) (hp : p := by first | omega | (simp; done) | (simp; omega)) : ValJ C σ ds I δ (.binOp op t x y t') (.bool true) := v_cmpt hx hy hz hp
theorem v_cmpfA {op : BinOp} {t t' : TypeId} {x y : Operand} {a b : Int} {p : Prop} {ip : Decidable p} (hx : evS σ x = some (.int .i64 a)) (hy : evS σ y = some (.int .i64 b)) (hz : cmpI op a b = some (@decide p ip)) (hp : ¬ p := by first | omega | (simp; done) | (simp; omega)) : ValJ C σ ds I δ (.binOp op t x y t') (.bool false) := v_cmpf hx hy hz hp
theorem v_loadA {t e : TypeId} {x : Operand} {b off n : Nat} {agg : Bool} {cs : List Value} {v : Value} (ht : Ty C.P t agg n) (hx : evS σ x = some (.pointer (some ⟨b, off, none⟩))) (hv : ld agg n (cs.drop off) = some v) (hh : Has δ (.box b e cs) := by repeat (first | exact Has.here | apply Has.there)) :
    ValJ C σ ds I δ (.load t x) v := v_load ht hx hh hv
theorem v_indexA {t e : TypeId} {x y : Operand} {ad : Option Addr} {n c i size : Nat} (ht : C.P.underlying t = some (.slice e)) (hsz : (C.P.info? e).map (·.size) = some size)
    (hx : evS σ x = some (.slice ad n c)) (hy : evS σ y = some (.int .i64 (i : Int))) (hi : i < n := by omega) (had : ad.isSome = true := by assumption) : ValJ C σ ds I δ (.indexAddr t x y) (pa ad (i * size)) := v_index ht hsz hx hy hi had
theorem v_indexIA {t e : TypeId} {x y : Operand} {ad : Option Addr} {n c size : Nat} {i : Int} (ht : C.P.underlying t = some (.slice e)) (hsz : (C.P.info? e).map (·.size) = some size)
    (hx : evS σ x = some (.slice ad n c)) (hy : evS σ y = some (.int .i64 i)) (h0 : 0 ≤ i := by first | omega | (simp; done) | (simp; omega)) (hi : i < n := by first | omega | (simp; done) | (simp; omega)) (had : ad.isSome = true := by assumption) : ValJ C σ ds I δ (.indexAddr t x y) (pa ad (i.toNat * size)) := v_indexI ht hsz hx hy h0 hi had
theorem e_fl {Ib : Imm} {keep : Nat → List Ent} {ord : Plan} {pend : Pend} {listed : Array Bool} {i d : Nat} {v : Value} (hdst : (ops[i]?).bind (·.dst) = some d) (hd : Nat.blt d C.n = true) (hpf : d ∉ Looks ops i → PF C ops Ib (keep i) ((d, v) :: σ) ds i d v)
    (k : EJ C ops Q Ib keep ord ((i, d, v) :: pend) (listed.setIfInBounds i true) ((d, v) :: σ) ds I δ) (hkeep : Ib.le I := by repeat (first | exact Imm.le_refl _ | assumption | refine Imm.le_trans ?_ (by assumption)))
    (hsub : ∀ x ∈ keep i, x ∈ δ := by intro x hx; first | exact hx | exact List.mem_cons_of_mem _ hx | exact List.mem_append_right _ hx | (simp only [List.mem_cons, List.not_mem_nil, or_false] at hx; repeat' (first | (subst hx; simp [cellsL]; done) | rcases hx with hx | hx)) | simp_all) :
    EJ C ops Q Ib keep (.fl i ord) pend listed σ ds I δ := e_float hdst hd hpf hkeep hsub k
theorem side_allA {Ib : Imm} {keep : Nat → List Ent} {pend : Pend} (h1 : Ib.le I := by repeat (first | exact Imm.le_refl _ | assumption | refine Imm.le_trans ?_ (by assumption)))
    (h2 : ∀ i, ∀ x ∈ keep i, x ∈ δ := by intro _ x hx; first | exact hx | exact List.mem_cons_of_mem _ hx | exact List.mem_append_right _ hx | (simp only [List.mem_cons, List.not_mem_nil, or_false] at hx; repeat' (first | (subst hx; simp [cellsL]; done) | rcases hx with hx | hx)) | simp_all) : Side Ib I keep pend δ := side_all h1 h2
end Go.Proofs.Ytdbadicpbmndbaa.Lg
/- The rules of the logic: pointers against nil, division, entries that are taken out of a map. No condition. -/
set_option linter.unusedVariables false
set_option linter.unusedSimpArgs false
namespace Go.Proofs.Ytdbadicpbmndbaa.Lg
open Go Go.RowKit

variable {C : Ctx} {Q : Exit → Act → World → Prop} {σ : Env} {ds : List Nat} {I : Imm} {δ : List Ent} {ops : Array Oper} {rest : List Oper}
variable {d : Nat} {ty : TypeId} {pos : String} {after : Array Edge}

theorem v_quob {t t' : TypeId} {x y : Operand} {a b c : Int} (hx : evS σ x = some (.int .i64 a)) (hy : evS σ y = some (.int .i64 b)) (hn : b ≠ 0) (hc : a.tdiv b = c) (hb : -9223372036854775808 ≤ c ∧ c ≤ 9223372036854775807) : ValJ C σ ds I δ (.binOp .quo t x y t') (.int .i64 c) :=
  v_bin hx hy (fun _ => guard_int ..) (fun w => by
    show (Op.intDiv .quo .i64 a b).run C.P w = _
    unfold Op.intDiv
    rw [if_neg hn]
    show Result.ok (Value.int .i64 (IntKind.i64.wrap (a.tdiv b))) w = _
    rw [hc, wrap_id hb])
theorem v_remb {t t' : TypeId} {x y : Operand} {a b c : Int} (hx : evS σ x = some (.int .i64 a)) (hy : evS σ y = some (.int .i64 b)) (hn : b ≠ 0) (hc : a.tmod b = c) : ValJ C σ ds I δ (.binOp .rem t x y t') (.int .i64 c) :=
  v_bin hx hy (fun _ => guard_int ..) (fun w => by
    show (Op.intDiv .rem .i64 a b).run C.P w = _
    unfold Op.intDiv
    rw [if_neg hn]
    show Result.ok (Value.int .i64 (a.tmod b)) w = _
    rw [hc])

/-! ### acts that leave all that some floats of a region look at -/
end Go.Proofs.Ytdbadicpbmndbaa.Lg
/- Rows of things of one kind, in memory. Plain definitions and theorems; no condition. -/
set_option linter.unusedVariables false
set_option linter.unusedSimpArgs false
namespace Go.Proofs.Ytdbadicpbmndbaa
open Go Lg

/-- how one thing lies in so many cells -/
structure Elt (n : Nat) (α : Type) where
  R : Imm → α → List Value → Prop
  len : ∀ {I : Imm} {a : α} {vs : List Value}, R I a vs → vs.length = n
  one : ∀ {I : Imm} {a : α} {vs : List Value}, R I a vs → ∀ u ∈ vs, u.oneCell' = true
  mono : ∀ {I J : Imm} {a : α} {vs : List Value}, I.le J → R I a vs → R J a vs
section
variable {n : Nat} {α : Type} {E : Elt n α} {I J : Imm}
def RowE (E : Elt n α) (I : Imm) : List Value → List α → Prop
  | xs, [] => xs = []
  | xs, a :: al => ∃ vs ys, xs = vs ++ ys ∧ E.R I a vs ∧ RowE E I ys al
theorem RowE.nil : RowE E I [] [] := rfl
theorem RowE.length : ∀ {al : List α} {xs : List Value}, RowE E I xs al → xs.length = al.length * n
  | [], xs, h => by have : xs = [] := h; simp [this]
  | a :: al, xs, h => by
    obtain ⟨vs, ys, rfl, h1, h2⟩ := h
    have := E.len h1
    have := RowE.length h2
    rw [List.length_append, List.length_cons, Nat.succ_mul]; omega
theorem RowE.one1 : ∀ {al : List α} {xs : List Value}, RowE E I xs al → ∀ u ∈ xs, u.oneCell' = true
  | [], xs, h => by have : xs = [] := h; simp [this]
  | a :: al, xs, h => by
    obtain ⟨vs, ys, rfl, h1, h2⟩ := h
    intro u hu
    rcases List.mem_append.1 hu with q | q
    · exact E.one h1 u q
    · exact RowE.one1 h2 u q
theorem RowE.mono : ∀ {al : List α} {xs : List Value}, RowE E I xs al → I.le J → RowE E J xs al
  | [], xs, h, _ => h
  | a :: al, xs, h, hl => by
    obtain ⟨vs, ys, rfl, h1, h2⟩ := h
    exact ⟨vs, ys, rfl, E.mono hl h1, RowE.mono h2 hl⟩
theorem RowE.app : ∀ {al bs : List α} {xs ys : List Value}, RowE E I xs al → RowE E I ys bs → RowE E I (xs ++ ys) (al ++ bs)
  | [], bs, xs, ys, h, k => by have : xs = [] := h; subst this; exact k
  | a :: al, bs, xs, ys, h, k => by
    obtain ⟨vs, zs, rfl, h1, h2⟩ := h
    exact ⟨vs, zs ++ ys, by simp, h1, RowE.app h2 k⟩
theorem RowE.single {a : α} {vs : List Value} (h : E.R I a vs) : RowE E I vs [a] := ⟨vs, [], by simp, h, rfl⟩
theorem RowE.split : ∀ {al : List α} {xs : List Value} {i : Nat}, RowE E I xs al → (hi : i < al.length) → ∃ pre vs suf, xs = pre ++ (vs ++ suf) ∧ pre.length = i * n ∧ RowE E I pre (al.take i) ∧ E.R I al[i] vs ∧ RowE E I suf (al.drop (i + 1))
  | [], xs, i, h, hi => by simp at hi
  | a :: al, xs, 0, h, hi => by
    obtain ⟨vs, ys, rfl, h1, h2⟩ := h
    exact ⟨[], vs, ys, rfl, by simp, rfl, h1, h2⟩
  | a :: al, xs, i + 1, h, hi => by
    obtain ⟨vs, ys, rfl, h1, h2⟩ := h
    obtain ⟨pre, ws, suf, rfl, hl, k1, k2, k3⟩ := RowE.split (i := i) h2 (by simpa using hi)
    refine ⟨vs ++ pre, ws, suf, by simp, ?_, ⟨vs, pre, rfl, h1, k1⟩, k2, k3⟩
    rw [List.length_append, E.len h1, hl, Nat.succ_mul]; omega
theorem RowE.at {al : List α} {xs : List Value} {i : Nat} (h : RowE E I xs al) (hi : i < al.length) : ∃ vs, E.R I al[i] vs ∧ (∀ j v, vs[j]? = some v → xs[i * n + j]? = some v) ∧ ∃ r, xs.drop (i * n) = vs ++ r := by
  obtain ⟨pre, vs, suf, rfl, hl, _, h2, _⟩ := h.split hi
  refine ⟨vs, h2, fun j v hj => ?_, suf, by rw [← hl, List.drop_left]⟩
  have hlt := (List.getElem?_eq_some_iff.1 hj).1
  rw [List.getElem?_append_right (by omega), ← hl, Nat.add_sub_cancel_left, List.getElem?_append_left hlt]; exact hj
theorem RowE.cellsAt {al : List α} {xs : List Value} {ad : Option Addr} {i : Nat} (h : RowE E I xs al) (hc : Cells J ad xs) (hi : i < al.length) : ∃ vs, E.R I al[i] vs ∧ At J ad (i * n) vs := by
  obtain ⟨vs, h1, h2, _⟩ := h.at hi
  exact ⟨vs, h1, hc.at _ h2⟩
theorem RowE.take {al : List α} {xs : List Value} (h : RowE E I xs al) (k : Nat) (hk : k ≤ al.length) : RowE E I (xs.take (k * n)) (al.take k) := by
  rcases Nat.lt_or_ge k al.length with q | q
  · obtain ⟨pre, vs, suf, rfl, hl, h1, _, _⟩ := h.split q
    rw [← hl, List.take_left]; exact h1
  · have hx := h.length
    rw [List.take_of_length_le (by rw [hx]; exact Nat.mul_le_mul_right _ q), List.take_of_length_le q]; exact h
theorem RowE.drop : ∀ {al : List α} {xs : List Value} (k : Nat), RowE E I xs al → k ≤ al.length → RowE E I (xs.drop (k * n)) (al.drop k)
  | al, xs, 0, h, _ => by simpa using h
  | [], xs, k + 1, h, hk => by simp at hk
  | a :: al, xs, k + 1, h, hk => by
    obtain ⟨vs, ys, rfl, h1, h2⟩ := h
    have := RowE.drop k h2 (by simpa using hk)
    have e : (vs ++ ys).drop ((k + 1) * n) = ys.drop (k * n) := by
      rw [Nat.succ_mul, Nat.add_comm, ← E.len h1, ← List.drop_drop, List.drop_left]
    rw [e]; exact this
end
theorem stL_mid : ∀ (pre vs suf us ws : List Value) (k : Nat), Lg.stL vs k us = some ws → Lg.stL (pre ++ (vs ++ suf)) (pre.length + k) us = some (pre ++ (ws ++ suf))
  | p :: pre, vs, suf, us, ws, k, h => by
    have ih := stL_mid pre vs suf us ws k h
    show Lg.stL (p :: (pre ++ (vs ++ suf))) (pre.length + 1 + k) us = _
    rw [show pre.length + 1 + k = pre.length + k + 1 by omega]
    cases us with
    | nil =>
      have e1 : Lg.stL (p :: (pre ++ (vs ++ suf))) (pre.length + k + 1) [] = some (p :: (pre ++ (vs ++ suf))) := by simp [Lg.stL]
      have e2 : Lg.stL (pre ++ (vs ++ suf)) (pre.length + k) [] = some (pre ++ (vs ++ suf)) := by simp [Lg.stL]
      rw [e2] at ih
      rw [e1]
      simp only [Option.some.injEq] at ih
      rw [List.cons_append, ← ih]
    | cons u us =>
      simp only [Lg.stL, ih, Option.map_some, List.cons_append]
  | [], vs, suf, us, ws, k, h => by
    simp only [List.nil_append, List.length_nil, Nat.zero_add]
    induction vs generalizing us ws k with
    | nil =>
      cases us with
      | nil => simp [Lg.stL] at h; subst h; simp [Lg.stL]
      | cons u us => simp [Lg.stL] at h
    | cons v vs ih =>
      cases us with
      | nil => simp [Lg.stL] at h; subst h; simp [Lg.stL]
      | cons u us =>
        cases k with
        | zero =>
          simp only [Lg.stL, Option.map_eq_some_iff] at h
          obtain ⟨q, hq, rfl⟩ := h
          simp only [List.cons_append, Lg.stL, ih _ _ _ hq, Option.map_some]
        | succ k =>
          simp only [Lg.stL, Option.map_eq_some_iff] at h
          obtain ⟨q, hq, rfl⟩ := h
          simp only [List.cons_append, Lg.stL, ih _ _ _ hq, Option.map_some]
section
variable {n : Nat} {α : Type} {E : Elt n α} {I J : Imm}
/-- a thing is changed where it stands -/
theorem RowE.store {al : List α} {xs : List Value} {i : Nat} {b : α} (h : RowE E I xs al) (hi : i < al.length) : ∃ vs, E.R I al[i] vs ∧ (∃ r, xs.drop (i * n) = vs ++ r) ∧ ∀ k us ws, Lg.stL vs k us = some ws → E.R I b ws → ∃ ys, Lg.stL xs (i * n + k) us = some ys ∧ RowE E I ys (al.set i b) := by
  obtain ⟨pre, vs, suf, rfl, hl, h1, h2, h3⟩ := h.split hi
  refine ⟨vs, h2, ⟨suf, by rw [← hl, List.drop_left]⟩, fun k us ws hs hb => ⟨pre ++ (ws ++ suf), by rw [← hl]; exact stL_mid _ _ _ _ _ _ hs, ?_⟩⟩
  have e : al.set i b = al.take i ++ (b :: al.drop (i + 1)) := by rw [List.set_eq_take_append_cons_drop]; simp [hi]
  rw [e]
  exact h1.app ⟨ws, suf, rfl, hb, h3⟩
/-- a row that is only read -/
def RepE (E : Elt n α) (I : Imm) (v : Value) (al : List α) : Prop := ∃ (ad : Option Addr) (c : Nat) (xs : List Value), v = .slice ad al.length c ∧ al.length ≤ c ∧ al.length ≤ 1954687338211 ∧ Cells I ad xs ∧ RowE E I xs al
theorem RepE.mono {v : Value} {al : List α} (h : RepE E I v al) (hl : I.le J) : RepE E J v al := by
  obtain ⟨ad, c, xs, rfl, h1, h2, h3, h4⟩ := h
  exact ⟨ad, c, xs, rfl, h1, h2, h3.mono hl, h4.mono hl⟩
theorem RepE.nil : RepE E I (.slice none 0 0) [] := ⟨none, 0, [], rfl, Nat.le_refl _, by simp, fun j v hj => by simp at hj, rfl⟩
theorem RepE.small {v : Value} {al : List α} (h : RepE E I v al) : al.length ≤ 1954687338211 := by obtain ⟨_, _, _, _, _, h2, _⟩ := h; exact h2
end
theorem Lg.Cells.take {I : Imm} {A : Option Addr} {vs : List Value} (h : Cells I A vs) (n : Nat) : Cells I A (vs.take n) := fun j v hj => h j v (by
  rw [List.getElem?_take] at hj
  by_cases q : j < n
  · rwa [if_pos q] at hj
  · rw [if_neg q] at hj; cases hj)
theorem Lg.Cells.cut {I : Imm} {A : Option Addr} {c m size : Nat} {vs : List Value} (h : Cells I A vs) (hl : vs.length ≤ c * size) : Cells I (cutAt A c m size) (vs.drop (m * size)) := fun j v hj => by
  rw [List.getElem?_drop] at hj
  unfold cutAt
  by_cases e : c = m
  · exfalso
    have := (List.getElem?_eq_some_iff.1 hj).1
    subst e; omega
  · rw [if_neg e]
    have := h _ _ hj
    cases A with
    | none => simp [Imm.cellO] at this
    | some a => simpa [add_add] using this
section
variable {n : Nat} {α : Type} {E : Elt n α} {I J : Imm}
theorem RepE.dropR {ad : Option Addr} {c k : Nat} {xs : List Value} {al : List α} (hle : al.length ≤ c) (hb : al.length ≤ 1954687338211) (hc : Cells I ad xs) (hr : RowE E I xs al) (hk : k ≤ al.length) : RepE E I (.slice (cutAt ad c k n) (al.length - k) (c - k)) (al.drop k) :=
  ⟨cutAt ad c k n, c - k, xs.drop (k * n), by rw [List.length_drop], by rw [List.length_drop]; omega, by rw [List.length_drop]; omega, hc.cut (by rw [hr.length]; exact Nat.mul_le_mul_right _ hle), hr.drop k hk⟩
end
theorem RepE.shape {n : Nat} {α : Type} {E : Elt n α} {I : Imm} {v : Value} {al : List α} (h : RepE E I v al) : ∃ ad c, v = .slice ad al.length c := by obtain ⟨ad, c, _, h, _⟩ := h; exact ⟨ad, c, h⟩
end Go.Proofs.Ytdbadicpbmndbaa
/- Literals and clauses: how they lie in memory. Plain definitions and theorems; no condition. -/
set_option linter.unusedVariables false
set_option linter.unusedSimpArgs false
namespace Go.Proofs.Ytdbadicpbmndbaa
open Go Lg

structure Li where
  neg : Bool
  l : T
  r : T
abbrev liC (x : Li) (la : Option Addr) (lc : Nat) (ra : Option Addr) (rc : Nat) : List Value := [.bool x.neg, .int .i64 x.l.head, .slice la x.l.args.length lc, .int .i64 x.r.head, .slice ra x.r.args.length rc]
/-- a literal that is only read -/
def RepL (I : Imm) (v : Value) (x : Li) : Prop := ∃ (la : Option Addr) (lc : Nat) (ra : Option Addr) (rc : Nat), v = .agg #[.bool x.neg, .int .i64 x.l.head, .slice la x.l.args.length lc, .int .i64 x.r.head, .slice ra x.r.args.length rc] ∧ RepT I (.agg #[.int .i64 x.l.head, .slice la x.l.args.length lc]) x.l ∧ RepT I (.agg #[.int .i64 x.r.head, .slice ra x.r.args.length rc]) x.r
theorem RepL.mono {I J : Imm} {v : Value} {x : Li} (h : RepL I v x) (hl : I.le J) : RepL J v x := by
  obtain ⟨la, lc, ra, rc, h1, h2, h3⟩ := h; exact ⟨la, lc, ra, rc, h1, h2.mono hl, h3.mono hl⟩
def zeroLi : Li := ⟨false, zeroT, zeroT⟩
def eqL (x y : Li) : Bool := (decide (x.l = y.l) && decide (x.r = y.r)) || (decide (x.l = y.r) && decide (x.r = y.l))
def sameL (x y : Li) : Bool := (x.neg == y.neg) && eqL x y
def rowL (x : Li) : List T := if x.neg = true then [x.l, x.l, x.r, x.r] else [x.l, x.r]
instance : DecidableEq Li := fun a b => if h : a.neg = b.neg ∧ a.l = b.l ∧ a.r = b.r then .isTrue (by obtain ⟨h1, h2, h3⟩ := h; cases a; cases b; simp_all) else .isFalse fun e => h (by subst e; exact ⟨rfl, rfl, rfl⟩)
def LitE : Elt 5 Li where
  R := fun I x vs => ∃ (la : Option Addr) (lc : Nat) (ra : Option Addr) (rc : Nat), vs = liC x la lc ra rc ∧ RepT I (.agg #[.int .i64 x.l.head, .slice la x.l.args.length lc]) x.l ∧ RepT I (.agg #[.int .i64 x.r.head, .slice ra x.r.args.length rc]) x.r
  len := by rintro I a vs ⟨la, lc, ra, rc, rfl, _, _⟩; rfl
  one := by
    rintro I a vs ⟨la, lc, ra, rc, rfl, _, _⟩ u hu
    simp only [List.mem_cons, List.not_mem_nil, or_false] at hu
    rcases hu with rfl | rfl | rfl | rfl | rfl <;> rfl
  mono := by rintro I J a vs hl ⟨la, lc, ra, rc, rfl, h1, h2⟩; exact ⟨la, lc, ra, rc, rfl, h1.mono hl, h2.mono hl⟩
abbrev RepC (I : Imm) (v : Value) (c : List Li) : Prop := RepE LitE I v c
theorem RepL.row {I : Imm} {v : Value} {x : Li} (h : RepL I v x) : ∃ vs, v = .agg vs.toArray ∧ LitE.R I x vs := by
  obtain ⟨la, lc, ra, rc, rfl, h1, h2⟩ := h
  exact ⟨_, rfl, la, lc, ra, rc, rfl, h1, h2⟩
/-- all sides -/
def sidesL (c : List Li) : List T := c.flatMap fun x => [x.l, x.r]
def TermE : Elt 2 T where
  R := fun I t vs => ∃ (a : Option Addr) (c : Nat), vs = [.int .i64 t.head, .slice a t.args.length c] ∧ RepT I (.agg #[.int .i64 t.head, .slice a t.args.length c]) t
  len := by rintro I a vs ⟨la, lc, rfl, _⟩; rfl
  one := by
    rintro I a vs ⟨la, lc, rfl, _⟩ u hu
    simp only [List.mem_cons, List.not_mem_nil, or_false] at hu
    rcases hu with rfl | rfl <;> rfl
  mono := by rintro I J a vs hl ⟨la, lc, rfl, h1⟩; exact ⟨la, lc, rfl, h1.mono hl⟩
theorem repT_head {I : Imm} {v : Value} {t : T} (h : RepT I v t) : InR t.head := by obtain ⟨s, t, hr, _⟩ := h; exact hr
theorem RowE.rowT {I : Imm} {xs : List Value} {ts : List T} (h : RowE TermE I xs ts) : RowT I xs ts := by
  refine ⟨h.length, fun i hi => ?_⟩
  obtain ⟨vs, ⟨a, c, rfl, hr⟩, hat, _⟩ := h.at hi
  exact ⟨(a, c), hat 0 _ rfl, hat 1 _ rfl, hr⟩
theorem RowE.repS {I : Imm} {ad : Option Addr} {c : Nat} {xs : List Value} {ts : List T} (h : RowE TermE I xs ts) (hc : Cells I ad xs) (hle : ts.length ≤ c) (hb : ts.length ≤ 4398046511104) : RepS I (.slice ad ts.length c) ts := by
  have := RowT.rep (h := 0) hc h.rowT (by unfold InR; omega) hle hb
  have key : ∀ (v : Value) (t : T) (s : Value), RepT I v t → v = .agg #[.int .i64 t.head, s] → RepS I s t.args := fun v t s hv e => by
    obtain ⟨s', t, hr, hs⟩ := hv
    have e' : s' = s := by simpa using e
    subst e'; exact hs
  exact key _ _ _ this rfl
end Go.Proofs.Ytdbadicpbmndbaa
