/- Rules for cuts of slices, literals, append. No condition. -/
import Derived.Test.YthbcdffldcdfoaaLgd
namespace Go.Proofs.Ythbcdffldcdfoaa.Lg
open Go Go.RowKit

variable {C : Ctx} {Q : Exit → Act → World → Prop} {σ : Env} {ds : List Nat} {I : Imm} {δ : List Ent} {ops : Array Oper} {rest : List Oper}
variable {d : Nat} {ty : TypeId} {pos : String} {after : Array Edge}

/-! ### cuts -/
theorem v_sliceTo {t e : TypeId} {x y : Operand} {ad : Option Addr} {n c h size : Nat} (ht : C.P.underlying t = some (.slice e)) (hsz : (C.P.info? e).map (·.size) = some size)
    (hx : evS σ x = some (.slice ad n c)) (hy : evS σ y = some (.int .i64 (h : Int))) (hh : h ≤ c) : ValJ C σ ds I δ (.slice t x none (some y) none) (.slice ad h c) :=
  fun _ _ _ _ _ a w he _ => by
    have hu : (underlying t).run C.P w = .ok (.slice e) w := by simp [underlying, program, Sem.run, ht]
    cases hq : C.P.info? e with
    | none => simp [hq] at hsz
    | some inf =>
      simp [hq] at hsz
      simp [execOp, he.ev hx, he.ev hy, Instr.sliceAt, Instr.slice, Instr.sliceBounds, Instr.sliceBound, asIntOf, hu, sizeOf, typeInfo, program, Sem.run, hq, hh]
      cases ad <;> simp [Addr.add]

/-- where a slice begins that is cut at its front -/
def cutAt (ad : Option Addr) (c m size : Nat) : Option Addr := if c = m then ad else ad.map (·.add (m * size))
theorem v_sliceFrom {t e : TypeId} {x y : Operand} {ad : Option Addr} {n c m size : Nat} (ht : C.P.underlying t = some (.slice e)) (hsz : (C.P.info? e).map (·.size) = some size)
    (hx : evS σ x = some (.slice ad n c)) (hy : evS σ y = some (.int .i64 (m : Int))) (hm : m ≤ n) (_hnc : n ≤ c) : ValJ C σ ds I δ (.slice t x (some y) none none) (.slice (cutAt ad c m size) (n - m) (c - m)) :=
  fun _ _ _ _ _ a w he _ => by
    have hu : (underlying t).run C.P w = .ok (.slice e) w := by simp [underlying, program, Sem.run, ht]
    cases hq : C.P.info? e with
    | none => simp [hq] at hsz
    | some inf =>
      simp [hq] at hsz
      have : ¬ n < m := by omega
      simp [execOp, he.ev hx, he.ev hy, Instr.sliceAt, Instr.slice, Instr.sliceBounds, Instr.sliceBound, asIntOf, hu, sizeOf, typeInfo, program, Sem.run, hq, hsz, hm, cutAt]

theorem At.cut {ad : Option Addr} {c m size k : Nat} {vs : List Value} (h : At I ad (m * size + k) vs) (hcm : m < c) : At I (cutAt ad c m size) k vs := fun j v hj => by
  have h1 := h j v hj
  unfold cutAt
  rw [if_neg (by omega)]
  cases ad with
  | none => simp [Imm.cellO] at h1
  | some a =>
    simp only [Option.map_some] at h1 ⊢
    rw [add_add]
    rwa [Nat.add_assoc] at h1
theorem cutAt_isSome {ad : Option Addr} {c m size : Nat} (h : ad.isSome = true) : (cutAt ad c m size).isSome = true := by unfold cutAt; split <;> simpa using h

/-! ### builtins -/
theorem v_max {x y : Operand} {a b : Int} {ts : Array TypeId} (hx : evS σ x = some (.int .i64 a)) (hy : evS σ y = some (.int .i64 b)) :
    ValJ C σ ds I δ (.call { callee := .builtin .max, args := #[x, y], argTypes := ts }) (.int .i64 (max a b)) :=
  fun _ _ _ _ _ ac w he _ => by
    simp [execOp, resolve, invoke, builtin, Builtin.max_, Builtin.max2, he.ev hx, he.ev hy]
    split <;> omega
theorem v_min {x y : Operand} {a b : Int} {ts : Array TypeId} (hx : evS σ x = some (.int .i64 a)) (hy : evS σ y = some (.int .i64 b)) :
    ValJ C σ ds I δ (.call { callee := .builtin .min, args := #[x, y], argTypes := ts }) (.int .i64 (min a b)) :=
  fun _ _ _ _ _ ac w he _ => by
    simp [execOp, resolve, invoke, builtin, Builtin.min_, Builtin.min2, he.ev hx, he.ev hy]
    split <;> omega

/-! ### literals -/
def idxd : Nat → List Operand → List (Nat × Operand)
  | _, [] => []
  | k, x :: r => (k, x) :: idxd (k + 1) r
def cat : List Value → List Value
  | [] => []
  | v :: r => cellsL v ++ cat r
def sized (size : Nat) : List Value → Bool
  | [] => true
  | v :: r => Nat.beq (cellsL v).length size && sized size r
theorem cat_length {size : Nat} : ∀ {vs : List Value}, sized size vs = true → (cat vs).length = vs.length * size
  | [], _ => by simp [cat]
  | v :: r, h => by
    simp only [sized, Bool.and_eq_true] at h
    have h1 : (cellsL v).length = size := Nat.eq_of_beq_eq_true h.1
    have h2 := cat_length h.2
    simp [cat, h1, h2, Nat.add_mul, Nat.add_comm]

theorem foldl_set (vs : List Value) : ∀ (k off : Nat) (pre suf : List Value), pre.length = off + k → vs.length ≤ suf.length →
    (vs.zipIdx k).foldl (fun cs (x : Value × Nat) => cs.setIfInBounds (off + x.2) x.1) (pre ++ suf).toArray = (pre ++ vs ++ suf.drop vs.length).toArray := by
  induction vs with
  | nil => intro k off pre suf _ _; simp
  | cons v r ih =>
    intro k off pre suf hp hs
    match suf, hs with
    | s :: suf, hs =>
      simp only [List.zipIdx_cons, List.foldl_cons]
      have h1 : (pre ++ s :: suf).toArray.setIfInBounds (off + k) v = ((pre ++ [v]) ++ suf).toArray := by
        simp [List.setIfInBounds_toArray, ← hp]
      rw [h1, ih (k + 1) off (pre ++ [v]) suf (by simp [hp]; omega) (by simpa using hs)]
      simp

theorem fill_cat {size : Nat} : ∀ (vs : List Value) (k : Nat) (pre suf : List Value), sized size vs = true → pre.length = k * size → suf.length = vs.length * size →
    Instr.fill (fun i => some (i * size, size)) (pre ++ suf).toArray (vs.zipIdx k |>.map fun p => (p.2, p.1)) = some (pre ++ cat vs).toArray
  | [], k, pre, suf, _, _, hs => by
    have : suf = [] := List.eq_nil_of_length_eq_zero (by simpa using hs)
    simp [Instr.fill, cat, this]
  | v :: r, k, pre, suf, hv, hp, hs => by
    simp only [sized, Bool.and_eq_true] at hv
    have h1 : (cellsL v).length = size := Nat.eq_of_beq_eq_true hv.1
    have hlen : (v :: r).length * size = size + r.length * size := by simp [Nat.add_mul, Nat.add_comm]
    simp only [List.zipIdx_cons, List.map_cons, Instr.fill]
    rw [if_neg (by simp [cellsL_cells, h1, hp]; omega)]
    have hf := foldl_set (cellsL v) 0 (k * size) pre suf (by simpa using hp) (by omega)
    have hz : v.cells.zipIdx = ((cellsL v).zipIdx 0).toArray := by rw [cellsL_cells]; simp
    rw [hz]
    have hfold : (List.toArray ((cellsL v).zipIdx 0)).foldl (fun cs (x : Value × Nat) => cs.setIfInBounds (k * size + x.2) x.1) (pre ++ suf).toArray = (pre ++ cellsL v ++ suf.drop (cellsL v).length).toArray := by
      rw [← hf]; simp
    rw [hfold, fill_cat r (k + 1) (pre ++ cellsL v) (suf.drop (cellsL v).length) hv.2 (by simp [hp, h1, Nat.add_mul]) (by simp [h1]; omega)]
    simp [cat]

theorem idxd_eq (a : Act) {n : Nat} (he : EnvOK n σ ds a) : ∀ (xs : List Operand) (vs : List Value) (k : Nat), evL σ xs = some vs → (idxd k xs).map (fun p => (p.1, a.eval p.2)) = (vs.zipIdx k).map fun p => (p.2, p.1)
  | [], vs, k, h => by simp [evL] at h; subst h; simp [idxd]
  | x :: r, vs, k, h => by
    simp only [evL] at h
    cases h1 : evS σ x with
    | none => simp [h1] at h
    | some v =>
      cases h2 : evL σ r with
      | none => simp [h1, h2] at h
      | some us =>
        simp [h1, h2] at h
        subst h
        simp [idxd, he.ev h1, idxd_eq a he r us (k + 1) h2]

theorem sat_row {w : World} {g : Nat} {e : TypeId} {size n : Nat} {cs : List Value} (h : w.heap[g]? = some (.cells cs.toArray e (0, 0))) (hl : cs.length = n * size) (hn : n ≤ maxLen) : (Ent.row (.slice (some ⟨g, 0, none⟩) n n) e size n cs).holds w :=
  ⟨hl, .inr ⟨g, n, cs.toArray, rfl, Nat.zero_le _, h, Nat.le_refl _, hn, by simpa using hl, by simp [← hl]⟩⟩

/-- A slice literal. -/
theorem o_buildSlice {t e : TypeId} {z : Value} {size bytes len : Nat} {parts : List (Nat × Operand)} {xs : List Operand} {vs : List Value} (ht : C.P.underlying t = some (.slice e)) (hb : (C.P.info? e).map (fun i => (i.zero, i.size, i.bytes)) = some (some z, size, bytes))
    (hp : parts = idxd 0 xs) (hx : evL σ xs = some vs) (hv : sized size vs = true) (hlen : vs.length = len) (hd : Nat.blt d C.n = true) (k : ∀ b, OpsJ C ops Q rest ((d, .slice (some ⟨b, 0, none⟩) len len) :: σ) ds I (.row (.slice (some ⟨b, 0, none⟩) len len) e size len (cat vs) :: δ))
    (_hz : z.cells.size = size := by rfl) (hle : Nat.ble (len * size) 1000 = true := by rfl) (hln : Nat.ble len 1000 = true := by rfl) :
    OpsJ C ops Q ({ dst := some d, op := .buildSlice t len parts.toArray, type := ty, pos := pos, after := after, guard := none } :: rest) σ ds I δ :=
  op_step rfl rfl hd (by intro c hc; cases hc) (fun a w he hs => by
    subst hp
    have hl : len ≤ 1000 := by simpa [Nat.ble_eq] using hln
    have hle' : len * size ≤ 1000 := by simpa [Nat.ble_eq] using hle
    have hcat := cat_length hv
    rw [hlen] at hcat
    have hw1 : (w.alloc (.cells (cat vs).toArray e)).heap[w.heap.size]? = some (.cells (cat vs).toArray e (0, 0)) := heap_alloc_new w _
    obtain ⟨s', t'⟩ := hs.alloc (.row (.slice (some ⟨w.heap.size, 0, none⟩) len len) e size len (cat vs)) (.cells (cat vs).toArray e) rfl (sat_row hw1 hcat (by unfold maxLen; omega))
    refine ⟨_, _, _, _, ?_, s', t', k w.heap.size⟩
    have hu : (underlying t).run C.P w = .ok (.slice e) w := by simp [underlying, program, Sem.run, ht]
    cases hq : C.P.info? e with
    | none => simp [hq] at hb
    | some inf =>
      simp [hq] at hb
      obtain ⟨hb1, hb2, hb3⟩ := hb
      have hmap : (idxd 0 xs).toArray.map (fun (p : Nat × Operand) => (p.1, a.eval p.2)) = ((vs.zipIdx 0).map fun p => (p.2, p.1)).toArray := by simp [idxd_eq a he xs vs 0 hx]
      have hbase : ∀ (zs : Array Value), ((Array.range (len * size)).map (zs[· % zs.size]!)) = (([] : List Value) ++ ((List.range (len * size)).map (zs[· % zs.size]!))).toArray := fun zs => by
        apply Array.ext
        · simp
        · intro i h1 h2; simp
      have hfill : ∀ zs : Array Value, Instr.fill (fun i => some (i * size, size)) ((Array.range (len * size)).map (zs[· % zs.size]!)) ((vs.zipIdx 0).map fun p => (p.2, p.1)) = some (cat vs).toArray := fun zs => by
        rw [hbase zs, fill_cat vs 0 [] _ hv (by simp) (by simp [hlen])]
        simp
      have hbig : ¬ len * size > 2 ^ 24 := by omega
      have hzv : (zeroValue e).run C.P w = .ok z w := by simp [zeroValue, typeInfo, program, Sem.run, hq, hb1]
      have hmap2 : (idxd 0 xs).toArray.map (fun (x : Nat × Operand) => match x with | (i, x) => (i, a.eval x)) = ((vs.zipIdx 0).map fun p => (p.2, p.1)).toArray := hmap
      simp only [execOp, hmap2, Instr.buildSlice, Sem.run_bind, hu, Result.andThen]
      have hsz : (sizeOf e).run C.P w = .ok size w := by simp [sizeOf, typeInfo, program, Sem.run, hq, hb2]
      simp only [hsz, if_neg hbig]
      by_cases h0 : len * size = 0
      · simp only [h0, if_true, Sem.run_bind, Sem.run_pure, Result.andThen]
        have := hfill #[]
        simp only [h0] at this
        rw [this]
        simp [newRow, newObj, Sem.run]
      · simp only [if_neg h0, Sem.run_bind, hzv, Result.andThen, Sem.run_pure]
        have := hfill z.cells
        rw [this]
        simp [newRow, newObj, Sem.run])

/-! ### append -/
/-- What is appended can be read. -/
def Src (I : Imm) (δ : List Ent) (A : Option Addr) (ys : List Value) : Prop := ys = [] ∨ ∃ a, A = some a ∧ ∀ w, Sat w I δ → ∀ j u, ys[j]? = some u → w.cell? (a.add j) = some u
theorem Src.ofI {A : Option Addr} {ys : List Value} (h : Cells I A ys) : Src I δ A ys := by
  cases ys with
  | nil => exact .inl rfl
  | cons y ys =>
    have h0 := h 0 y rfl
    cases A with
    | none => simp [Imm.cellO] at h0
    | some a => exact .inr ⟨a, rfl, fun w hs j u hj => hs.cell (h j u hj)⟩
theorem Src.ofRow {A : Option Addr} {m c : Nat} {e : TypeId} {size n : Nat} {ys : List Value} (h : Has δ (.row (.slice A m c) e size n ys)) (hA : A.isSome = true) : Src I δ A ys := by
  obtain ⟨a, rfl⟩ := Option.isSome_iff_exists.1 hA
  refine .inr ⟨a, rfl, fun w hs j u hj => ?_⟩
  have hr : w.ownsRow 0 e size (.slice (some a) m c) n ys := hs.ents _ h.mem
  rcases hr.2 with ⟨he, _⟩ | ⟨g, cap, cur, he, _⟩
  · cases he
  · have : a = ⟨g, 0, none⟩ := by injection he with he; injection he
    subst this
    exact hr.cells (g := g) rfl j u hj

theorem run_append_nil {P : Program} {w : World} {t e ty : TypeId} {size n m c : Nat} {v : Value} {A : Option Addr} {xs : List Value} (ht : P.underlying t = some (.slice e)) (hi : (P.info? e).map (·.size) = some size) (h : w.ownsRow 0 e size v n xs) (hm : m = 0) :
    (Builtin.append_ #[t, t] ty #[v, .slice A m c]).run P w = .ok v w := by
  subst hm
  have hu : (underlying t).run P w = .ok (.slice e) w := by simp [underlying, program, Sem.run, ht]
  cases hq : P.info? e with
  | none => simp [hq] at hi
  | some inf =>
    have hsz : (sizeOf e).run P w = .ok inf.size w := by simp [sizeOf, typeInfo, program, Sem.run, hq]
    have hload : ∀ a : Addr, (loadCells a 0).run P w = .ok #[] w := fun a => by simp [loadCells, loadCellsFrom]
    rcases h.2 with ⟨rfl, rfl⟩ | ⟨g, cap, cur, rfl, _, _, hnc, _⟩
    · cases A <;> simp [Builtin.append_, hu, hsz, Builtin.lenOf, Builtin.firstCells, hload]
    · cases A <;> simp [Builtin.append_, hu, hsz, Builtin.lenOf, Builtin.firstCells, hnc, hload, storeCells]

theorem own_shape {w : World} {b : Nat} {e : TypeId} {size n : Nat} {v : Value} {xs : List Value} (h : w.ownsRow b e size v n xs) : ∃ A c, v = .slice A n c := by
  rcases h.2 with ⟨rfl, rfl⟩ | ⟨g, cap, cur, rfl, _⟩
  · exact ⟨none, 0, rfl⟩
  · exact ⟨_, cap, rfl⟩
theorem o_append {t e : TypeId} {z : Value} {size bytes n m c : Nat} {s x : Operand} {v : Value} {A : Option Addr} {xs ys : List Value} {G : Value → List Ent} (ht : C.P.underlying t = some (.slice e)) (hb : (C.P.info? e).map (fun i => (i.zero, i.size, i.bytes)) = some (some z, size, bytes))
    (hs : evS σ s = some v) (hx : evS σ x = some (.slice A m c)) (hd : Nat.blt d C.n = true) (hsw : ∀ v', Swap δ (.row v e size n xs) (G v') (.row v' e size (n + m) (xs ++ ys))) (hsrc : Src I δ A ys) (hl : ys.length = m * size) (h1 : ∀ u ∈ ys, u.oneCell' = true)
    (hbd : n + m ≤ 9223372036854775807) (hby : (n + m) * bytes ≤ 140737488355328) (k : ∀ A' c', OpsJ C ops Q rest ((d, .slice A' (n + m) c') :: σ) ds I (G (.slice A' (n + m) c'))) (hz : z.cells.size = size := by rfl) (hsz : Nat.blt 0 size = true := by rfl) :
    OpsJ C ops Q ({ dst := some d, op := .call { callee := .builtin .append, args := #[s, x], argTypes := #[t, t] }, type := ty, pos := pos, after := after, guard := none } :: rest) σ ds I δ :=
  op_step rfl rfl hd (by intro c hc; cases hc) (fun a w he hsat => by
    have hsz' : 0 < size := by simpa [Nat.blt_eq] using hsz
    obtain ⟨l, r, hl1, _⟩ := (hsw v).split
    have hown : w.ownsRow 0 e size v n xs := hsat.ents (.row v e size n xs) (by rw [hl1]; simp)
    have hex : ∀ r, (Builtin.append_ #[t, t] ty #[v, .slice A m c]).run C.P w = r → (execOp a.eval { dst := some d, op := .call { callee := .builtin .append, args := #[s, x], argTypes := #[t, t] }, type := ty, pos := pos, after := after, guard := none }).run C.P w = r.andThen fun v w' => .ok (.value v) w' := fun r hr => by
      simp [execOp, resolve, invoke, builtin, he.ev hs, he.ev hx, hr]
    rcases hsrc with rfl | ⟨ad, rfl, hread⟩
    · have hm : m = 0 := by
        rcases Nat.eq_zero_or_pos m with h | h
        · exact h
        · have := Nat.mul_pos h hsz'; simp at hl; omega
      have hr := run_append_nil (P := C.P) (ty := ty) (c := c) (A := A) ht (by cases hq : C.P.info? e <;> simp_all) hown hm
      subst hm
      obtain ⟨A', c', rfl⟩ := own_shape hown
      have hG : G (.slice A' (n + 0) c') = δ := by
        have h2 := hsw (.slice A' (n + 0) c')
        obtain ⟨l, r, e1, e2⟩ := h2.split
        rw [e1, e2]; simp
      exact ⟨_, w, I, G _, (hex _ hr).trans rfl, by rw [hG]; exact hsat, by rw [hG]; exact Tr.refl _ _ _, k A' c'⟩
    · cases hq : C.P.info? e with
      | none => simp [hq] at hb
      | some inf =>
        simp [hq] at hb
        obtain ⟨hb1, hb2, hb3⟩ := hb
        obtain ⟨v', w', hr, hown', hg, _, hat⟩ := run_append_own_at (P := C.P) (w := w) 0 t ty e inf z size bytes ht hq hb1 hb2 hb3 hz hsz' v n xs hown ad m c ys hl (hread w hsat) h1 (by simpa [maxLen] using hbd) hby (Nat.zero_le _)
        obtain ⟨s', t'⟩ := hsat.swap (hsw v') hg.os hg.tape hg.output hg.size (fun b hlt hne => hg.block b hlt (fun e => hne (by simpa [Ent.blk] using e.symm))) hown' (fun b hb => by
          have hb' : v'.ownBlock = some b := hb
          rcases hat with h | h
          · exact .inl (by rw [← hb', h]; rfl)
          · rw [h] at hb'; cases hb'; exact .inr (Nat.le_refl _))
        obtain ⟨A', c', rfl⟩ := own_shape hown'
        exact ⟨_, w', I, G _, (hex _ hr).trans rfl, s', t', k A' c'⟩)

/-- nil is a row of one's own, too. -/
theorem View.nilRow (e : TypeId) (size : Nat) : View I δ I (.row (.slice none 0 0) e size 0 [] :: δ) := fun w h =>
  ⟨⟨h.imm, fun x hx => by
      rcases List.mem_cons.1 hx with rfl | hx
      · exact World.ownsRow_nil w 0 e size
      · exact h.ents x hx, h.nodup, fun b hb => h.apart b hb⟩,
    ⟨rfl, rfl, rfl, Nat.le_refl _, fun _ _ _ => rfl, Imm.le_refl _, fun b o h1 h2 => (by rw [h1] at h2; cases h2), fun b hb => .inl hb⟩⟩

/-- structs -/
def fillL (ps : List (Nat × Nat)) : List Value → List (Nat × Value) → Option (List Value)
  | cs, [] => some cs
  | cs, (i, v) :: r =>
    match ps[i]? with
    | some (off, size) => bif Nat.beq (cellsL v).length size && Nat.blt 0 size then (stL cs off (cellsL v)).bind fun cs' => fillL ps cs' r else none
    | none => none
def evP (σ : Env) : List (Nat × Operand) → Option (List (Nat × Value))
  | [] => some []
  | (i, x) :: r => match evS σ x, evP σ r with
    | some v, some vs => some ((i, v) :: vs)
    | _, _ => none
theorem evP_ok {n : Nat} {a : Act} (he : EnvOK n σ ds a) : ∀ {xs : List (Nat × Operand)} {vs : List (Nat × Value)}, evP σ xs = some vs → xs.map (fun p => (p.1, a.eval p.2)) = vs
  | [], vs, h => by simp [evP] at h; simp [← h]
  | (i, x) :: r, vs, h => by
    simp only [evP] at h
    cases h1 : evS σ x with
    | none => simp [h1] at h
    | some v =>
      cases h2 : evP σ r with
      | none => simp [h1, h2] at h
      | some us =>
        simp [h1, h2] at h
        subst h
        simp [he.ev h1, evP_ok he h2]

theorem foldl_stL (vs : List Value) : ∀ (cs cs' : List Value) (off k : Nat), stL cs (off + k) vs = some cs' → (vs.zipIdx k).foldl (fun cs (x : Value × Nat) => cs.setIfInBounds (off + x.2) x.1) cs.toArray = cs'.toArray := by
  induction vs with
  | nil => intro cs cs' off k h; cases cs <;> cases hk : off + k <;> simp_all [stL]
  | cons v r ih =>
    intro cs cs' off k h
    obtain ⟨_, h2, h3, h4⟩ := stL_spec _ _ _ _ h
    have hle := h3 (by simp)
    simp only [List.length_cons] at hle
    have hst : ∃ d, stL (cs.set (off + k) v) (off + (k + 1)) r = some d ∧ d = cs' := by
      have key : ∀ (cs : List Value) (o : Nat) (d : List Value), stL cs o (v :: r) = some d → stL (cs.set o v) (o + 1) r = some d := by
        intro cs
        induction cs with
        | nil => intro o d h; cases o <;> simp [stL] at h
        | cons c cs ihc =>
          intro o d h
          cases o with
          | zero =>
            simp only [stL, Option.map_eq_some_iff] at h
            obtain ⟨q, hq, rfl⟩ := h
            cases r with
            | nil => cases cs <;> simp [stL] at hq ⊢ <;> simp [hq]
            | cons u r => simp [stL, hq]
          | succ o =>
            simp only [stL, Option.map_eq_some_iff] at h
            obtain ⟨q, hq, rfl⟩ := h
            have := ihc o q hq
            cases r with
            | nil => cases hcs : (cs.set o v) <;> simp [stL, hcs] at this ⊢ <;> simp [this]
            | cons u r => simp [stL, this]
      exact ⟨cs', key cs (off + k) cs' h, rfl⟩
    obtain ⟨d, hd, rfl⟩ := hst
    simp only [List.zipIdx_cons, List.foldl_cons]
    have h1 : cs.toArray.setIfInBounds (off + k) v = (cs.set (off + k) v).toArray := by simp
    rw [h1]
    exact ih _ _ _ _ hd

theorem fill_L (ps : List (Nat × Nat)) : ∀ (vs : List (Nat × Value)) (cs cs' : List Value), fillL ps cs vs = some cs' → Instr.fill (fun i => ps[i]?) cs.toArray vs = some cs'.toArray
  | [], cs, cs', h => by simp [fillL] at h; simp [Instr.fill, h]
  | (i, v) :: r, cs, cs', h => by
    simp only [fillL] at h
    cases hp : ps[i]? with
    | none => simp [hp] at h
    | some p =>
      obtain ⟨off, size⟩ := p
      simp only [hp] at h
      cases hb : (Nat.beq (cellsL v).length size && Nat.blt 0 size) with
      | false => simp only [hb, cond_false] at h; cases h
      | true =>
        simp only [hb, cond_true, Option.bind_eq_some_iff] at h
        obtain ⟨d, hd, hr⟩ := h
        simp only [Bool.and_eq_true, Nat.blt_eq] at hb
        have hl : (cellsL v).length = size := Nat.eq_of_beq_eq_true hb.1
        obtain ⟨h1, h2, h3, _⟩ := stL_spec _ _ _ _ hd
        have hle : off + (cellsL v).length ≤ cs.length := h3 (fun e => by rw [e] at hl; simp at hl; omega)
        simp only [Instr.fill, hp]
        have hz : v.cells.zipIdx = ((cellsL v).zipIdx 0).toArray := by rw [cellsL_cells]; simp
        have hf := foldl_stL (cellsL v) cs d off 0 hd
        have hfold : (List.toArray ((cellsL v).zipIdx 0)).foldl (fun cs (x : Value × Nat) => cs.setIfInBounds (off + x.2) x.1) cs.toArray = d.toArray := by rw [← hf]; simp
        have hcz : v.cells.size = size := by rw [cellsL_cells]; simpa using hl
        rw [if_neg (by simp [hcz]; omega), hz, hfold]
        exact fill_L ps r d cs' hr

/-- A struct out of its fields. -/
structure Bl (P : Program) (t : TypeId) (z : List Value) (ps : List (Nat × Nat)) : Prop where
  desc : ∃ fs, P.underlying t = some (.struct fs) ∧ fs.toList.mapM (fun f => (P.info? f.type).map fun i => (f.offset, i.size)) = some ps
  zero : (P.info? t).bind (·.zero) = some (.agg z.toArray)

theorem mapM_fields {P : Program} {w : World} : ∀ (fs : List Field) (ps : List (Nat × Nat)), fs.mapM (fun f => (P.info? f.type).map fun i => (f.offset, i.size)) = some ps →
    (fs.mapM (m := Sem) fun f => do pure (f.offset, ← sizeOf f.type)).run P w = .ok ps w
  | [], ps, h => by simp at h; subst h; simp
  | f :: fs, ps, h => by
    simp only [List.mapM_cons, Option.bind_eq_bind, Option.bind_eq_some_iff, Option.pure_def, Option.some.injEq] at h
    obtain ⟨p, hp, q, hq, rfl⟩ := h
    cases hi : P.info? f.type with
    | none => simp [hi] at hp
    | some i =>
      simp [hi] at hp
      subst hp
      have := mapM_fields (w := w) fs q hq
      simp only [List.mapM_cons, Sem.run_bind]
      simp [sizeOf, typeInfo, program, Sem.run, hi] at this ⊢
      rw [this]
      rfl

theorem v_build {t : TypeId} {parts : List (Nat × Operand)} {z cs : List Value} {ps : List (Nat × Nat)} {vs : List (Nat × Value)} (hb : Bl C.P t z ps) (hx : evP σ parts = some vs) (hf : fillL ps z vs = some cs) :
    ValJ C σ ds I δ (.build t parts.toArray) (.agg cs.toArray) :=
  fun _ _ _ _ _ a w he _ => by
    obtain ⟨fs, hu', hps⟩ := hb.desc
    have hz := hb.zero
    have hu : (underlying t).run C.P w = .ok (.struct fs) w := by simp [underlying, program, Sem.run, hu']
    have hzv : (zeroValue t).run C.P w = .ok (.agg z.toArray) w := by
      cases hq : C.P.info? t with
      | none => simp [hq] at hz
      | some i => simp [hq] at hz; simp [zeroValue, typeInfo, program, Sem.run, hq, hz]
    have hmap : parts.toArray.map (fun (x : Nat × Operand) => match x with | (i, x) => (i, a.eval x)) = vs.toArray := by
      rw [← evP_ok he hx]; simp
    have hm : (fs.mapM (m := Sem) fun f => do pure (f.offset, ← sizeOf f.type)).run C.P w = .ok ps.toArray w := by
      have h1 := mapM_fields (w := w) fs.toList ps hps
      have h2 : fs = fs.toList.toArray := by simp
      rw [h2, List.mapM_toArray, Sem.run_map, h1]
      rfl
    have hfill := fill_L ps vs z cs hf
    simp only [execOp, hmap, Instr.build, Sem.run_bind, hzv, hu, Result.andThen, hm]
    have hpl : (fun i : Nat => ps.toArray[i]?) = (fun i : Nat => ps[i]?) := by funext i; simp
    simp only [Value.cells, hpl]
    rw [hfill]
    rfl
end Go.Proofs.Ythbcdffldcdfoaa.Lg
