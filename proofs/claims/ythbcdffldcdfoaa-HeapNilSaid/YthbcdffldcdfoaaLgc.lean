/- The rules of the logic, one for each kind of operation. No condition. -/
import Derived.Test.YthbcdffldcdfoaaLgb
namespace Go.Proofs.Ythbcdffldcdfoaa.Lg
open Go Go.RowKit

variable {C : Ctx} {Q : Exit → Act → World → Prop} {σ : Env} {ds : List Nat} {I : Imm} {δ : List Ent} {ops : Array Oper} {rest : List Oper}
variable {d : Nat} {ty : TypeId} {pos : String} {after : Array Edge}

/-! ### types -/
structure Ty (P : Program) (t : TypeId) (agg : Bool) (n : Nat) : Prop where
  desc : ∃ u, P.underlying t = some u ∧ (match u with | .struct _ | .array _ _ => true | _ => false) = agg
  size : (P.info? t).map (·.size) = some n
  one : agg = false → n = 1

/-- n cells as one value. -/
def pack (agg : Bool) (cs : List Value) : Value := bif agg then .agg cs.toArray else cs.headD undef
/-- the first n of a list, as one value -/
def ld : Bool → Nat → List Value → Option Value
  | false, _, c :: _ => some c
  | true, 0, _ => some (.agg #[])
  | true, 1, a :: _ => some (.agg #[a])
  | true, 2, a :: b :: _ => some (.agg #[a, b])
  | true, 3, a :: b :: c :: _ => some (.agg #[a, b, c])
  | true, 4, a :: b :: c :: e :: _ => some (.agg #[a, b, c, e])
  | true, 5, a :: b :: c :: e :: f :: _ => some (.agg #[a, b, c, e, f])
  | _, _, _ => none

theorem ld_spec {agg : Bool} {n : Nat} {cs : List Value} {v : Value} (h : ld agg n cs = some v) (h1 : agg = false → n = 1) :
    ∃ us : List Value, us.length = n ∧ v = pack agg us ∧ ∀ (j : Nat) (u : Value), us[j]? = some u → cs[j]? = some u := by
  unfold ld at h
  split at h <;> simp at h
  all_goals subst h
  · rename_i c r
    exact ⟨[c], by simp [h1 rfl], rfl, fun j u hj => by cases j <;> simp_all⟩
  · exact ⟨[], rfl, rfl, fun j u hj => by simp at hj⟩
  · rename_i a r; exact ⟨[a], rfl, rfl, fun j u hj => by rcases j with _ | j <;> simp_all⟩
  · rename_i a b r; exact ⟨[a, b], rfl, rfl, fun j u hj => by rcases j with _ | _ | j <;> simp_all⟩
  · rename_i a b c r; exact ⟨[a, b, c], rfl, rfl, fun j u hj => by rcases j with _ | _ | _ | j <;> simp_all⟩
  · rename_i a b c e r; exact ⟨[a, b, c, e], rfl, rfl, fun j u hj => by rcases j with _ | _ | _ | _ | j <;> simp_all⟩
  · rename_i a b c e f r; exact ⟨[a, b, c, e, f], rfl, rfl, fun j u hj => by rcases j with _ | _ | _ | _ | _ | j <;> simp_all⟩

theorem run_loadAt {P : Program} {t : TypeId} {agg : Bool} {n : Nat} (ht : Ty P t agg n) {w : World} {a : Addr} {cs : List Value} (hl : cs.length = n)
    (hc : ∀ j v, cs[j]? = some v → w.cell? (a.add j) = some v) : (Instr.loadAt t (.pointer (some a))).run P w = .ok (pack agg cs) w := by
  obtain ⟨u, hu, hagg⟩ := ht.desc
  have hsz : (sizeOf t).run P w = .ok n w := by
    have h := ht.size
    cases hq : P.info? t with
    | none => simp [hq] at h
    | some i => simp [hq] at h; simp [sizeOf, typeInfo, program, Sem.run, hq, h]
  have hund : (underlying t).run P w = .ok u w := by simp [underlying, program, Sem.run, hu]
  have hia : (isAgg t).run P w = .ok agg w := by
    simp only [isAgg, Sem.run_bind, hund, Result.andThen]
    cases u <;> simp at hagg <;> subst hagg <;> rfl
  cases agg with
  | true =>
    have hlc : (loadCells a n).run P w = .ok cs.toArray w := by rw [← hl]; exact run_loadCells_list (P := P) w a cs hc
    simp [Instr.loadAt, Instr.sureAddr, loadVar, hia, hsz, hlc, pack]
  | false =>
    have h1 := ht.one rfl
    rw [h1] at hl
    obtain ⟨c, rfl⟩ := List.length_eq_one_iff.1 hl
    have hc0 : w.cell? a = some c := by have := hc 0 c rfl; simpa [Addr.add] using this
    simp [Instr.loadAt, Instr.sureAddr, loadVar, hia, hc0, pack]

/-! ### values -/
/-- The operation yields this value and leaves the heap as it is. -/
def ValJ (C : Ctx) (σ : Env) (ds : List Nat) (I : Imm) (δ : List Ent) (op : Op) (v : Value) : Prop :=
  ∀ (dst : Option Nat) (ty : TypeId) (pos : String) (after : Array Edge) (g : Option (Nat × Bool)) (a : Act) (w : World), EnvOK C.n σ ds a → Sat w I δ →
    (execOp a.eval { dst := dst, op := op, type := ty, pos := pos, after := after, guard := g }).run C.P w = .ok (.value v) w

theorem ValJ.nodefer {op : Op} {v : Value} (h : ValJ C σ ds I δ op v) {a : Act} {w : World} (he : EnvOK C.n σ ds a) (hs : Sat w I δ) : ∀ c, op ≠ .defer c := by
  intro c hc
  subst hc
  have := h none 0 "" #[] none a w he hs
  simp only [execOp, Sem.run_bind] at this
  cases hr : (resolve a.eval c 0).run C.P w <;> simp [hr] at this

theorem op_v {op : Op} {v : Value} (h : ValJ C σ ds I δ op v) (hd : Nat.blt d C.n = true) (k : OpsJ C ops Q rest ((d, v) :: σ) ds I δ) :
    OpsJ C ops Q ({ dst := some d, op := op, type := ty, pos := pos, after := after, guard := none } :: rest) σ ds I δ :=
  fun a w he hs ht => op_val rfl rfl hd (h.nodefer he hs) (fun a w he hs => h _ _ _ _ _ a w he hs) k a w he hs ht

/-! ### copies -/
theorem v_move {x : Operand} {v : Value} (hx : evS σ x = some v) :
    ValJ C σ ds I δ (.move x) (v) :=
  fun _ _ _ _ _ => (fun a w he _ => by simp [execOp, he.ev hx])
theorem v_assign {x : Operand} {v : Value} (hx : evS σ x = some v) :
    ValJ C σ ds I δ (.assign x) (v) :=
  fun _ _ _ _ _ => (fun a w he _ => by simp [execOp, he.ev hx])
theorem v_pick {c x y : Operand} {b : Bool} {u v z : Value} (hc : evS σ c = some (.bool b)) (hx : evS σ x = some u) (hy : evS σ y = some v) (hz : (if b then u else v) = z) :
    ValJ C σ ds I δ (.pick c x y) (z) :=
  fun _ _ _ _ _ => (fun a w he _ => by subst hz; simp [execOp, asBool, he.ev hc, he.ev hx, he.ev hy])
theorem v_pickt {c x y : Operand} {u : Value} (hc : evS σ c = some (.bool true)) (hx : evS σ x = some u) : ValJ C σ ds I δ (.pick c x y) u :=
  fun _ _ _ _ _ a w he _ => by simp [execOp, asBool, he.ev hc, he.ev hx]
theorem v_pickf {c x y : Operand} {v : Value} (hc : evS σ c = some (.bool false)) (hy : evS σ y = some v) : ValJ C σ ds I δ (.pick c x y) v :=
  fun _ _ _ _ _ a w he _ => by simp [execOp, asBool, he.ev hc, he.ev hy]
theorem v_pickb {c x y : Operand} {b u v : Bool} (hc : evS σ c = some (.bool b)) (hx : evS σ x = some (.bool u)) (hy : evS σ y = some (.bool v)) : ValJ C σ ds I δ (.pick c x y) (.bool (if b then u else v)) :=
  fun _ _ _ _ _ a w he _ => by cases b <;> simp [execOp, asBool, he.ev hc, he.ev hx, he.ev hy]
theorem v_nilCheck {x : Operand} {a : Addr} (hx : evS σ x = some (.pointer (some a))) :
    ValJ C σ ds I δ (.nilCheck x) (.pointer (some a)) :=
  fun _ _ _ _ _ => (fun a w he _ => by simp [execOp, he.ev hx])
theorem v_extract {x : Operand} {i : Nat} {vs : Array Value} {v : Value} (hx : evS σ x = some (.tuple vs)) (hv : vs[i]? = some v) :
    ValJ C σ ds I δ (.extract x i) (v) :=
  fun _ _ _ _ _ => (fun a w he _ => by simp [execOp, Instr.extract, he.ev hx, hv])
theorem v_makeFunc {f : Fn} {first caps : List Operand} {vs us : List Value} (hx : evL σ first = some vs) (hy : evL σ caps = some us) :
    ValJ C σ ds I δ (.makeFunc f first.toArray caps.toArray) (.func f vs.toArray us.toArray) :=
  fun _ _ _ _ _ => (fun a w he _ => by simp [execOp, Instr.makeFunc, he.evs hx, he.evs hy])

/-! ### arithmetic -/
theorem v_bin {op : BinOp} {t t' : TypeId} {x y : Operand} {u v z : Value} (hx : evS σ x = some u) (hy : evS σ y = some v)
    (hg : ∀ w, (eqGuard op t x y u v).run C.P w = .ok () w) (hrun : ∀ w, (binOp op t u v).run C.P w = .ok z w) : ValJ C σ ds I δ (.binOp op t x y t') z :=
  fun _ _ _ _ _ a w he _ => by simp [execOp, he.ev hx, he.ev hy, hg, hrun]

theorem wrap_id {n : Int} (h : -9223372036854775808 ≤ n ∧ n ≤ 9223372036854775807) : IntKind.i64.wrap n = n := IntWalk.i64_in n h

theorem guard_int {P : Program} (op : BinOp) (t : TypeId) (x y : Operand) (k k' : IntKind) (a b : Int) (w : World) : (eqGuard op t x y (.int k a) (.int k' b)).run P w = .ok () w := by
  unfold eqGuard; cases op <;> rfl
theorem guard_bool {P : Program} (op : BinOp) (t : TypeId) (x y : Operand) (a b : Bool) (w : World) : (eqGuard op t x y (.bool a) (.bool b)).run P w = .ok () w := by
  unfold eqGuard; cases op <;> rfl
theorem guard_string {P : Program} (op : BinOp) (t : TypeId) (x y : Operand) (a b : ByteArray) (w : World) : (eqGuard op t x y (.string a) (.string b)).run P w = .ok () w := by
  unfold eqGuard; cases op <;> rfl
theorem guard_slice {P : Program} (op : BinOp) (t : TypeId) (x y : Operand) (a b : Option Addr) (n m c e : Nat) (w : World) : (eqGuard op t x y (.slice a n c) (.slice b m e)).run P w = .ok () w := by
  unfold eqGuard; cases op <;> rfl

theorem v_add {t t' : TypeId} {x y : Operand} {a b : Int} (hx : evS σ x = some (.int .i64 a)) (hy : evS σ y = some (.int .i64 b)) : ValJ C σ ds I δ (.binOp .add t x y t') (.int .i64 (IntKind.i64.wrap (a + b))) :=
  v_bin hx hy (fun _ => guard_int ..) (fun _ => rfl)
theorem v_addb {t t' : TypeId} {x y : Operand} {a b c : Int} (hx : evS σ x = some (.int .i64 a)) (hy : evS σ y = some (.int .i64 b)) (hc : a + b = c) (hb : -9223372036854775808 ≤ c ∧ c ≤ 9223372036854775807) : ValJ C σ ds I δ (.binOp .add t x y t') (.int .i64 c) := by
  have := v_add (C := C) (ds := ds) (I := I) (δ := δ) (t := t) (t' := t') hx hy
  rwa [hc, wrap_id hb] at this
theorem v_sub {t t' : TypeId} {x y : Operand} {a b : Int} (hx : evS σ x = some (.int .i64 a)) (hy : evS σ y = some (.int .i64 b)) : ValJ C σ ds I δ (.binOp .sub t x y t') (.int .i64 (IntKind.i64.wrap (a - b))) :=
  v_bin hx hy (fun _ => guard_int ..) (fun _ => rfl)
theorem v_subb {t t' : TypeId} {x y : Operand} {a b c : Int} (hx : evS σ x = some (.int .i64 a)) (hy : evS σ y = some (.int .i64 b)) (hc : a - b = c) (hb : -9223372036854775808 ≤ c ∧ c ≤ 9223372036854775807) : ValJ C σ ds I δ (.binOp .sub t x y t') (.int .i64 c) := by
  have := v_sub (C := C) (ds := ds) (I := I) (δ := δ) (t := t) (t' := t') hx hy
  rwa [hc, wrap_id hb] at this
theorem v_mul {t t' : TypeId} {x y : Operand} {a b : Int} (hx : evS σ x = some (.int .i64 a)) (hy : evS σ y = some (.int .i64 b)) : ValJ C σ ds I δ (.binOp .mul t x y t') (.int .i64 (IntKind.i64.wrap (a * b))) :=
  v_bin hx hy (fun _ => guard_int ..) (fun _ => rfl)
theorem v_mulb {t t' : TypeId} {x y : Operand} {a b c : Int} (hx : evS σ x = some (.int .i64 a)) (hy : evS σ y = some (.int .i64 b)) (hc : a * b = c) (hb : -9223372036854775808 ≤ c ∧ c ≤ 9223372036854775807) : ValJ C σ ds I δ (.binOp .mul t x y t') (.int .i64 c) := by
  have := v_mul (C := C) (ds := ds) (I := I) (δ := δ) (t := t) (t' := t') hx hy
  rwa [hc, wrap_id hb] at this

/-- a comparison of whole numbers -/
def cmpI : BinOp → Int → Int → Option Bool
  | .lss, a, b => some (decide (a < b))
  | .leq, a, b => some (decide (a ≤ b))
  | .gtr, a, b => some (decide (b < a))
  | .geq, a, b => some (decide (b ≤ a))
  | .eql, a, b => some (decide (a = b))
  | .neq, a, b => some (decide (a ≠ b))
  | _, _, _ => none
theorem v_cmp {op : BinOp} {t t' : TypeId} {x y : Operand} {a b : Int} {z : Bool} (hx : evS σ x = some (.int .i64 a)) (hy : evS σ y = some (.int .i64 b)) (hz : cmpI op a b = some z) : ValJ C σ ds I δ (.binOp op t x y t') (.bool z) :=
  v_bin hx hy (fun _ => guard_int ..) (fun w => by
    cases op <;> simp only [cmpI, Option.some.injEq, reduceCtorEq] at hz
    all_goals subst hz
    all_goals first | rfl | (show Result.ok (Value.bool (!(a == b))) w = _; by_cases h : a = b <;> simp [h]))
theorem v_cmpt {op : BinOp} {t t' : TypeId} {x y : Operand} {a b : Int} {p : Prop} {ip : Decidable p} (hx : evS σ x = some (.int .i64 a)) (hy : evS σ y = some (.int .i64 b)) (hz : cmpI op a b = some (@decide p ip)) (hp : p) : ValJ C σ ds I δ (.binOp op t x y t') (.bool true) :=
  v_cmp hx hy (by rw [hz]; simp [hp])
theorem v_cmpf {op : BinOp} {t t' : TypeId} {x y : Operand} {a b : Int} {p : Prop} {ip : Decidable p} (hx : evS σ x = some (.int .i64 a)) (hy : evS σ y = some (.int .i64 b)) (hz : cmpI op a b = some (@decide p ip)) (hp : ¬ p) : ValJ C σ ds I δ (.binOp op t x y t') (.bool false) :=
  v_cmp hx hy (by rw [hz]; simp [hp])
def cmpB : BinOp → Bool → Bool → Option Bool
  | .eql, a, b => some (a == b)
  | .neq, a, b => some (a != b)
  | _, _, _ => none
theorem v_eqb {op : BinOp} {t t' : TypeId} {x y : Operand} {a b z : Bool} (ht : C.P.underlying t = some .bool)
    (hx : evS σ x = some (.bool a)) (hy : evS σ y = some (.bool b)) (hz : cmpB op a b = some z) : ValJ C σ ds I δ (.binOp op t x y t') (.bool z) :=
  v_bin hx hy (fun _ => guard_bool ..) (fun w => by
    have hu : (underlying t).run C.P w = .ok .bool w := by simp [underlying, program, Sem.run, ht]
    have he : (Op.equal t (.bool a) (.bool b)).run C.P w = .ok (a == b) w := by
      show (Op.equalIn (9999 + 1) t (.bool a) (.bool b)).run C.P w = _
      rw [Op.equalIn]
      simp only [Sem.run_bind, hu, Result.andThen]
      rfl
    have h2 : ∀ f : Bool → Bool, (do pure (Value.bool (f (← Op.equal t (.bool a) (.bool b)))) : Sem Value).run C.P w = .ok (.bool (f (a == b))) w := fun f => by simp only [Sem.run_bind, he, Result.andThen]; rfl
    cases op <;> simp only [cmpB, Option.some.injEq, reduceCtorEq] at hz
    · subst hz; exact h2 id
    · subst hz; exact h2 not)
def cmpS : BinOp → ByteArray → ByteArray → Option Bool
  | .eql, a, b => some (a.toList == b.toList)
  | .neq, a, b => some (!(a.toList == b.toList))
  | _, _, _ => none
theorem v_eqs {op : BinOp} {t t' : TypeId} {x y : Operand} {a b : ByteArray} {z : Bool}
    (hx : evS σ x = some (.string a)) (hy : evS σ y = some (.string b)) (hz : cmpS op a b = some z) : ValJ C σ ds I δ (.binOp op t x y t') (.bool z) :=
  v_bin hx hy (fun _ => guard_string ..) (fun w => by
    cases op <;> simp only [cmpS, Option.some.injEq, reduceCtorEq] at hz
    all_goals subst hz
    all_goals rfl)
/-- a slice against nil -/
def cmpN : BinOp → Option Addr → Option Bool
  | .eql, a => some a.isNone
  | .neq, a => some a.isSome
  | _, _ => none
theorem v_nilq {op : BinOp} {t e : TypeId} {t' : TypeId} {x y : Operand} {ad : Option Addr} {n c : Nat} {z : Bool} (ht : C.P.underlying t = some (.slice e))
    (hx : evS σ x = some (.slice ad n c)) (hy : evS σ y = some (.slice none 0 0)) (hz : cmpN op ad = some z) : ValJ C σ ds I δ (.binOp op t x y t') (.bool z) :=
  v_bin hx hy (fun _ => guard_slice ..) (fun w => by
    have hu : (underlying t).run C.P w = .ok (.slice e) w := by simp [underlying, program, Sem.run, ht]
    have he : (Op.equal t (.slice ad n c) (.slice none 0 0)).run C.P w = .ok ad.isNone w := by
      show (Op.equalIn (9999 + 1) t (.slice ad n c) (.slice none 0 0)).run C.P w = _
      rw [Op.equalIn]
      simp only [Sem.run_bind, hu, Result.andThen]
      cases ad <;> rfl
    have h2 : ∀ f : Bool → Bool, (do pure (Value.bool (f (← Op.equal t (.slice ad n c) (.slice none 0 0)))) : Sem Value).run C.P w = .ok (.bool (f ad.isNone)) w := fun f => by simp only [Sem.run_bind, he, Result.andThen]; rfl
    cases op <;> simp only [cmpN, Option.some.injEq, reduceCtorEq] at hz
    · subst hz; exact h2 id
    · subst hz; have := h2 not; cases ad <;> exact this)
theorem v_not {t : TypeId} {x : Operand} {b : Bool} (hx : evS σ x = some (.bool b)) : ValJ C σ ds I δ (.unOp .not t x) (.bool (!b)) :=
  fun _ _ _ _ _ a w he _ => by simp [execOp, he.ev hx, Op.unary]
theorem v_neg {t : TypeId} {x : Operand} {n : Int} (hx : evS σ x = some (.int .i64 n)) : ValJ C σ ds I δ (.unOp .neg t x) (.int .i64 (IntKind.i64.wrap (0 - n))) :=
  fun _ _ _ _ _ a w he _ => by simp [execOp, he.ev hx, Op.unary, Op.intArith]

/-! ### lengths -/
theorem v_len {t e : TypeId} {x : Operand} {ad : Option Addr} {n c : Nat} (ht : C.P.underlying t = some (.slice e)) (hx : evS σ x = some (.slice ad n c)) :
    ValJ C σ ds I δ (.call { callee := .builtin .len, args := #[x], argTypes := #[t] }) (.int .i64 n) :=
  fun _ _ _ _ _ => (fun a w he _ => by
    have hu : (underlying t).run C.P w = .ok (.slice e) w := by simp [underlying, program, Sem.run, ht]
    simp [execOp, resolve, invoke, builtin, Builtin.len_, he.ev hx, hu, goInt])
theorem v_lens {t : TypeId} {x : Operand} {s : ByteArray} (ht : C.P.underlying t = some .string) (hx : evS σ x = some (.string s)) :
    ValJ C σ ds I δ (.call { callee := .builtin .len, args := #[x], argTypes := #[t] }) (.int .i64 s.size) :=
  fun _ _ _ _ _ => (fun a w he _ => by
    have hu : (underlying t).run C.P w = .ok .string w := by simp [underlying, program, Sem.run, ht]
    simp [execOp, resolve, invoke, builtin, Builtin.len_, he.ev hx, hu, goInt])

/-! ### boxes -/
def cellsL : Value → List Value
  | .agg cs => cs.toList
  | v => [v]
theorem cellsL_cells (v : Value) : v.cells = (cellsL v).toArray := by cases v <;> simp [Value.cells, cellsL]

theorem o_box {e : TypeId} {x : Operand} {v : Value} {cs : List Value} (hx : evS σ x = some v) (hv : cellsL v = cs) (hd : Nat.blt d C.n = true)
    (k : ∀ b, OpsJ C ops Q rest ((d, .pointer (some ⟨b, 0, none⟩)) :: σ) ds I (.box b e cs :: δ)) :
    OpsJ C ops Q ({ dst := some d, op := .box e x, type := ty, pos := pos, after := after, guard := none } :: rest) σ ds I δ :=
  op_step rfl rfl hd (by intro c hc; cases hc) (fun a w he hs => by
    subst hv
    obtain ⟨s', t'⟩ := hs.alloc (.box w.heap.size e (cellsL v)) (.cells (cellsL v).toArray e) rfl (heap_alloc_new w _)
    refine ⟨_, _, _, _, ?_, s', t', k w.heap.size⟩
    simp [execOp, Instr.box, newVar, newRow, newObj, Sem.run, he.ev hx, cellsL_cells])

theorem o_alloc {e : TypeId} {z : Value} {cs : List Value} (hz : (C.P.info? e).map (·.zero) = some (some z)) (hv : cellsL z = cs) (hd : Nat.blt d C.n = true)
    (k : ∀ b, OpsJ C ops Q rest ((d, .pointer (some ⟨b, 0, none⟩)) :: σ) ds I (.box b e cs :: δ)) :
    OpsJ C ops Q ({ dst := some d, op := .alloc e, type := ty, pos := pos, after := after, guard := none } :: rest) σ ds I δ :=
  op_step rfl rfl hd (by intro c hc; cases hc) (fun a w he hs => by
    subst hv
    obtain ⟨s', t'⟩ := hs.alloc (.box w.heap.size e (cellsL z)) (.cells (cellsL z).toArray e) rfl (heap_alloc_new w _)
    refine ⟨_, _, _, _, ?_, s', t', k w.heap.size⟩
    cases hq : C.P.info? e with
    | none => simp [hq] at hz
    | some i =>
      simp [hq] at hz
      simp [execOp, Instr.alloc, zeroValue, typeInfo, program, newVar, newRow, newObj, Sem.run, hq, hz, cellsL_cells])

/-- Membership of an entry. -/
inductive Has : List Ent → Ent → Prop
  | here {x : Ent} {r : List Ent} : Has (x :: r) x
  | there {x y : Ent} {r : List Ent} (h : Has r x) : Has (y :: r) x
theorem Has.mem {δ : List Ent} {x : Ent} (h : Has δ x) : x ∈ δ := by
  induction h with
  | here => exact List.mem_cons_self ..
  | there _ ih => exact List.mem_cons_of_mem _ ih

theorem box_cell {w : World} {b j : Nat} {e : TypeId} {cs : List Value} (h : (Ent.box b e cs).holds w) : w.cell? ⟨b, j, none⟩ = cs[j]? := by
  have h' : w.heap[b]? = some (.cells cs.toArray e (0, 0)) := h
  simp [World.cell?, h']

theorem add_plain (g i j : Nat) : (⟨g, i, none⟩ : Addr).add j = ⟨g, i + j, none⟩ := by unfold Addr.add; split <;> simp_all

theorem v_load {t e : TypeId} {x : Operand} {b off n : Nat} {agg : Bool} {cs : List Value} {v : Value} (ht : Ty C.P t agg n) (hx : evS σ x = some (.pointer (some ⟨b, off, none⟩))) (hh : Has δ (.box b e cs))
    (hv : ld agg n (cs.drop off) = some v) :
    ValJ C σ ds I δ (.load t x) (v) :=
  fun _ _ _ _ _ => (fun a w he hs => by
    obtain ⟨us, hl, rfl, hu⟩ := ld_spec hv ht.one
    have := run_loadAt ht (w := w) (a := ⟨b, off, none⟩) hl (fun j v hj => by
      rw [add_plain, box_cell (hs.ents _ hh.mem)]
      have := hu j v hj
      simpa [List.getElem?_drop] using this)
    simp [execOp, he.ev hx, this])

/-- Cells that are written. -/
def stL : List Value → Nat → List Value → Option (List Value)
  | cs, _, [] => some cs
  | _ :: cs, 0, v :: vs => (stL cs 0 vs).map (v :: ·)
  | c :: cs, k + 1, vs => (stL cs k vs).map (c :: ·)
  | [], _, _ :: _ => none

theorem run_storeCells {P : Program} {b : Nat} {e : TypeId} : ∀ (vs : List Value) (off i : Nat) (cs : List Value) (w : World), w.heap[b]? = some (.cells cs.toArray e (0, 0)) → off + i + vs.length ≤ cs.length → (∀ v ∈ vs, v.oneCell' = true) →
    ∃ w', (storeCells ⟨b, off, none⟩ vs i).run P w = .ok () w' ∧ w'.os = w.os ∧ w'.tape = w.tape ∧ w'.output = w.output ∧ w'.heap.size = w.heap.size ∧ (∀ k, k ≠ b → w'.heap[k]? = w.heap[k]?) ∧
      ∃ cs' : List Value, w'.heap[b]? = some (.cells cs'.toArray e (0, 0)) ∧ cs'.length = cs.length ∧ ∀ j : Nat, cs'[j]? = if off + i ≤ j ∧ j < off + i + vs.length then vs[j - (off + i)]? else cs[j]?
  | [], off, i, cs, w, hw, _, _ => ⟨w, rfl, rfl, rfl, rfl, rfl, fun _ _ => rfl, cs, hw, rfl, fun j => by rw [if_neg (by simp only [List.length_nil]; omega)]⟩
  | v :: r, off, i, cs, w, hw, hle, h1 => by
    have hlen : off + i < cs.length := by simp at hle; omega
    have hc : w.cell? ⟨b, off + i, none⟩ = some cs[off + i] := by simp [World.cell?, hw, hlen]
    have hf : w.frozen? ⟨b, off + i, none⟩ = false := frozen_of_row w b (off + i) cs.toArray e hw
    have hst : (store ((⟨b, off, none⟩ : Addr).add i) v).run P w = .ok () (w.setCell ⟨b, off + i, none⟩ v) := by
      rw [add_plain, run_store P w _ v _ (h1 v (by simp))]
      simp [hc, hf]
    have hw1 : (w.setCell ⟨b, off + i, none⟩ v).heap[b]? = some (.cells (cs.set (off + i) v).toArray e (0, 0)) := by
      rw [heap_setCell_same w b (off + i) cs.toArray e v hw]; simp
    obtain ⟨w', hr, g1, g2, g3, g4, g5, cs', g6, g7, g8⟩ := run_storeCells r off (i + 1) (cs.set (off + i) v) (w.setCell ⟨b, off + i, none⟩ v) hw1 (by simp at hle ⊢; omega) (fun u hu => h1 u (by simp [hu]))
    refine ⟨w', ?_, g1, g2, g3, g4.trans (by simp), fun k hk => (g5 k hk).trans (heap_setCell_other w _ k v hk), cs', g6, by simpa using g7, fun j => ?_⟩
    · simp only [storeCells, Sem.run_bind, hst, Result.andThen]; exact hr
    · rw [g8 j]
      by_cases hj : j = off + i
      · subst hj
        rw [if_neg (by omega), if_pos (by simp)]
        simp [hlen]
      · by_cases hin : off + (i + 1) ≤ j ∧ j < off + (i + 1) + r.length
        · rw [if_pos hin, if_pos (by simp; omega)]
          have : j - (off + i) = (j - (off + (i + 1))) + 1 := by omega
          rw [this]; rfl
        · rw [if_neg hin, if_neg (by simp; omega)]
          rw [List.getElem?_set_ne (by omega)]

theorem stL_spec : ∀ (cs : List Value) (off : Nat) (vs cs' : List Value), stL cs off vs = some cs' → off + vs.length ≤ max cs.length (off) ∧ cs'.length = cs.length ∧ (vs ≠ [] → off + vs.length ≤ cs.length) ∧ ∀ j, cs'[j]? = if off ≤ j ∧ j < off + vs.length then vs[j - off]? else cs[j]?
  | cs, off, [], cs', h => by
    have : cs = cs' := by cases cs <;> cases off <;> simpa [stL] using h
    subst this
    exact ⟨by simp; omega, rfl, by simp, fun j => by rw [if_neg (by simp only [List.length_nil]; omega)]⟩
  | [], off, v :: vs, cs', h => by cases off <;> simp [stL] at h
  | c :: cs, 0, v :: vs, cs', h => by
    simp only [stL, Option.map_eq_some_iff] at h
    obtain ⟨r, hr, rfl⟩ := h
    obtain ⟨h1, h2, h3, h4⟩ := stL_spec cs 0 vs r hr
    have hle : vs.length ≤ cs.length := by simpa using h1
    refine ⟨by simp; omega, by simp [h2], fun _ => by simp; omega, fun j => ?_⟩
    cases j with
    | zero => simp
    | succ j =>
      have := h4 j
      simp only [List.getElem?_cons_succ, this]
      by_cases hj : j < vs.length
      · rw [if_pos (by omega), if_pos (by simp; omega)]; simp
      · rw [if_neg (by omega), if_neg (by simp; omega)]
  | c :: cs, k + 1, v :: vs, cs', h => by
    simp only [stL, Option.map_eq_some_iff] at h
    obtain ⟨r, hr, rfl⟩ := h
    obtain ⟨h1, h2, h3, h4⟩ := stL_spec cs k (v :: vs) r hr
    have hle := h3 (by simp)
    simp only [List.length_cons] at hle
    refine ⟨by simp; omega, by simp [h2], fun _ => by simp; omega, fun j => ?_⟩
    cases j with
    | zero => simp
    | succ j =>
      have := h4 j
      simp only [List.getElem?_cons_succ, this]
      by_cases hj : k ≤ j ∧ j < k + (v :: vs).length
      · rw [if_pos hj, if_pos (by omega)]
        congr 1; omega
      · rw [if_neg hj, if_neg (by omega)]

theorem o_store {t e : TypeId} {x y : Operand} {b off n : Nat} {agg : Bool} {cs vs cs' : List Value} {v : Value} {δ' : List Ent} (ht : Ty C.P t agg n) (hx : evS σ x = some (.pointer (some ⟨b, off, none⟩))) (hy : evS σ y = some v)
    (hv : cellsL v = vs) (hvn : Nat.beq vs.length n = true) (h1 : vs.all (·.oneCell') = true) (hh : Swap δ (.box b e cs) δ' (.box b e cs')) (hst : stL cs off vs = some cs') (k : OpsJ C ops Q rest σ ds I δ') :
    OpsJ C ops Q ({ dst := none, op := .store t x y, type := ty, pos := pos, after := after, guard := none } :: rest) σ ds I δ :=
  op_act rfl rfl (by intro c hc; cases hc) (fun a w he hs => by
    obtain ⟨l, r, hl1, hl2⟩ := hh.split
    have hw : w.heap[b]? = some (.cells cs.toArray e (0, 0)) := hs.ents (.box b e cs) (by rw [hl1]; simp)
    obtain ⟨_, h3, h4, h5⟩ := stL_spec _ _ _ _ hst
    have hn : vs.length = n := Nat.eq_of_beq_eq_true hvn
    have hsz : (sizeOf t).run C.P w = .ok n w := by
      have h := ht.size
      cases hq : C.P.info? t with
      | none => simp [hq] at h
      | some i => simp [hq] at h; simp [sizeOf, typeInfo, program, Sem.run, hq, h]
    subst hn
    have hall : ∀ u ∈ vs, u.oneCell' = true := by simpa using h1
    by_cases hnil : vs = []
    · subst hnil
      have : cs' = cs := by cases cs <;> cases off <;> simpa [stL] using hst.symm
      subst this
      refine ⟨w, I, δ', ?_, ?_, ?_, k⟩
      · simp [execOp, he.ev hx, he.ev hy, Instr.storeAt, Instr.sureAddr, storeVar, hsz, cellsL_cells, hv, storeCells]
      · have : δ' = δ := by rw [hl1, hl2]
        rw [this]; exact hs
      · have : δ' = δ := by rw [hl1, hl2]
        rw [this]; exact Tr.refl _ _ _
    · obtain ⟨w', hr, g1, g2, g3, g4, g5, cs2, g6, g7, g8⟩ := run_storeCells (P := C.P) vs off 0 cs w hw (by have := h4 hnil; omega) hall
      have hcs : cs2 = cs' := by
        apply List.ext_getElem?
        intro j
        rw [g8 j, h5 j]
        simp
      subst hcs
      obtain ⟨s', t'⟩ := hs.swap hh g1 g2 g3 (by omega) (fun k _ hk => g5 k (fun e => hk (by rw [e]; rfl))) g6 (fun k hk => .inl hk)
      refine ⟨w', I, δ', ?_, s', t', k⟩
      simp [execOp, he.ev hx, he.ev hy, Instr.storeAt, Instr.sureAddr, storeVar, hsz, cellsL_cells, hv, hr])

/-! ### fields -/
theorem v_field {t : TypeId} {x : Operand} {fs : Array Field} {k : Nat} {f : Field} {a a' : Addr} (ht : C.P.underlying t = some (.struct fs)) (hf : fs[k]? = some f) (hsz : (C.P.info? f.type).map (fun i => Nat.blt 0 i.size) = some true)
    (hx : evS σ x = some (.pointer (some a))) (ha : a.add f.offset = a') :
    ValJ C σ ds I δ (.fieldAddr t x k) (.pointer (some a')) :=
  fun _ _ _ _ _ => (fun ac w he _ => by
    subst ha
    have hu : (underlying t).run C.P w = .ok (.struct fs) w := by simp [underlying, program, Sem.run, ht]
    cases hq : C.P.info? f.type with
    | none => simp [hq] at hsz
    | some i =>
      have hi : ¬ i.size = 0 := by simp [hq, Nat.blt_eq] at hsz; omega
      simp [execOp, he.ev hx, Instr.fieldAt, Instr.sureAddr, hu, hf, fieldPlace, sizeOf, typeInfo, program, Sem.run, hq, hi])

/-! ### immutable rows -/
/-- Cells at an offset of a slice's row. -/
def At (I : Imm) (ad : Option Addr) (m : Nat) (vs : List Value) : Prop := ∀ j v, vs[j]? = some v → I.cellO (ad.map (·.add (m + j))) = some v
theorem At.mono {J : Imm} {ad : Option Addr} {m : Nat} {vs : List Value} (h : At I ad m vs) (hl : I.le J) : At J ad m vs := fun j v hj => Imm.le_cellO hl (h j v hj)
theorem Cells.at {ad : Option Addr} {xs vs : List Value} (h : Cells I ad xs) (m : Nat) (hm : ∀ j v, vs[j]? = some v → xs[m + j]? = some v) : At I ad m vs := fun j v hj => h _ _ (hm j v hj)
theorem At.isSome {ad : Option Addr} {m : Nat} {v : Value} {vs : List Value} (h : At I ad m (v :: vs)) : ad.isSome = true := by
  have := h 0 v rfl
  cases ad with
  | none => simp [Imm.cellO] at this
  | some a => rfl
def pa (ad : Option Addr) (m : Nat) : Value := .pointer (ad.map (·.add m))

theorem add_add (a : Addr) (m k : Nat) : (a.add m).add k = a.add (m + k) := by
  unfold Addr.add
  by_cases h1 : m = 0 <;> by_cases h2 : k = 0 <;> simp [h1, h2, Nat.add_assoc]

theorem v_index {t e : TypeId} {x y : Operand} {ad : Option Addr} {n c i size : Nat} (ht : C.P.underlying t = some (.slice e)) (hsz : (C.P.info? e).map (·.size) = some size)
    (hx : evS σ x = some (.slice ad n c)) (hy : evS σ y = some (.int .i64 (i : Int))) (hi : i < n) (had : ad.isSome = true) :
    ValJ C σ ds I δ (.indexAddr t x y) (pa ad (i * size)) :=
  fun _ _ _ _ _ => (fun a w he _ => by
    have hu : (underlying t).run C.P w = .ok (.slice e) w := by simp [underlying, program, Sem.run, ht]
    obtain ⟨a0, rfl⟩ := Option.isSome_iff_exists.1 had
    cases hq : C.P.info? e with
    | none => simp [hq] at hsz
    | some inf =>
      simp [hq] at hsz
      simp [execOp, he.ev hx, he.ev hy, Instr.indexAt, asIntOf, hu, sizeOf, typeInfo, program, Sem.run, hq, hsz, pa]
      intro hle
      omega)

theorem v_fieldB {t : TypeId} {x : Operand} {fs : Array Field} {k : Nat} {f : Field} {b o : Nat} (q : Nat) (ht : C.P.underlying t = some (.struct fs)) (hf : fs[k]? = some f) (hq : f.offset = q) (hsz : (C.P.info? f.type).map (fun i => Nat.blt 0 i.size) = some true)
    (hx : evS σ x = some (.pointer (some ⟨b, o, none⟩))) : ValJ C σ ds I δ (.fieldAddr t x k) (.pointer (some ⟨b, o + q, none⟩)) := by
  subst hq
  exact v_field ht hf hsz hx (add_plain _ _ _)
theorem v_indexI {t e : TypeId} {x y : Operand} {ad : Option Addr} {n c size : Nat} {i : Int} (ht : C.P.underlying t = some (.slice e)) (hsz : (C.P.info? e).map (·.size) = some size)
    (hx : evS σ x = some (.slice ad n c)) (hy : evS σ y = some (.int .i64 i)) (h0 : 0 ≤ i) (hi : i < n) (had : ad.isSome = true) : ValJ C σ ds I δ (.indexAddr t x y) (pa ad (i.toNat * size)) := by
  obtain ⟨k, rfl⟩ := Int.eq_ofNat_of_zero_le h0
  exact v_index ht hsz hx hy (by omega) had

theorem v_fieldI {t : TypeId} {x : Operand} {fs : Array Field} {k : Nat} {f : Field} {ad : Option Addr} {m : Nat} (q : Nat) (ht : C.P.underlying t = some (.struct fs)) (hf : fs[k]? = some f) (hq : f.offset = q) (hsz : (C.P.info? f.type).map (fun i => Nat.blt 0 i.size) = some true)
    (hx : evS σ x = some (pa ad m)) (had : ad.isSome = true) : ValJ C σ ds I δ (.fieldAddr t x k) (pa ad (m + q)) := by
  obtain ⟨a0, rfl⟩ := Option.isSome_iff_exists.1 had
  subst hq
  exact v_field ht hf hsz hx (add_add a0 m f.offset)

theorem v_loadI {t : TypeId} {x : Operand} {ad : Option Addr} {m k n : Nat} {agg : Bool} {vs : List Value} {v : Value} (ht : Ty C.P t agg n) (hat : At I ad m vs) (hx : evS σ x = some (pa ad (m + k)))
    (hv : ld agg n (vs.drop k) = some v) (hn : Nat.blt 0 n = true) : ValJ C σ ds I δ (.load t x) v :=
  fun _ _ _ _ _ a w he hs => by
    obtain ⟨us, hl, rfl, hu⟩ := ld_spec hv ht.one
    have hn0 : 0 < n := by simpa [Nat.blt_eq] using hn
    have hsome : ad.isSome = true := by
      obtain ⟨u0, hu0⟩ : ∃ u0, us[0]? = some u0 := ⟨us[0]'(by omega), by simp⟩
      have h1 := hu 0 u0 hu0
      simp only [List.getElem?_drop] at h1
      have := hat _ _ h1
      cases ad with
      | none => simp [Imm.cellO] at this
      | some a => rfl
    obtain ⟨a0, rfl⟩ := Option.isSome_iff_exists.1 hsome
    have := run_loadAt ht (w := w) (a := a0.add (m + k)) hl (fun j v hj => by
      rw [add_add]
      have h1 := hu j v hj
      simp only [List.getElem?_drop] at h1
      have h2 := hat _ _ h1
      simp only [Option.map_some, Imm.cellO] at h2
      rw [Nat.add_assoc]
      exact hs.cell h2)
    simp [execOp, he.ev hx, pa, this]

theorem v_loadI0 {t : TypeId} {x : Operand} {ad : Option Addr} {m n : Nat} {agg : Bool} {vs : List Value} {v : Value} (ht : Ty C.P t agg n) (hat : At I ad m vs) (hx : evS σ x = some (pa ad m))
    (hv : ld agg n vs = some v) (hn : Nat.blt 0 n = true) : ValJ C σ ds I δ (.load t x) v :=
  v_loadI (k := 0) ht hat hx hv hn

/-! ### the end of a function -/
/-- What a result variable holds. -/
inductive ResV (P : Program) (σ : Env) (δ : List Ent) : ResultVar → Value → Prop
  | tmp {t : Nat} {v : Value} (h : look t σ = some v) : ResV P σ δ (.tmp t) v
  | cell {a : Nat} {t e : TypeId} {b n : Nat} {agg : Bool} {cs : List Value} {v : Value} (h : look a σ = some (.pointer (some ⟨b, 0, none⟩))) (ht : Ty P t agg n) (hh : Has δ (.box b e cs)) (hv : ld agg n cs = some v) : ResV P σ δ (.cell a t) v

inductive ResL (P : Program) (σ : Env) (δ : List Ent) : List ResultVar → List Value → Prop
  | nil : ResL P σ δ [] []
  | cons {r : ResultVar} {v : Value} {rs : List ResultVar} {vs : List Value} (h : ResV P σ δ r v) (t : ResL P σ δ rs vs) : ResL P σ δ (r :: rs) (v :: vs)

def outV : List Value → Value
  | [v] => v
  | vs => .tuple vs.toArray

theorem ResL.length {P : Program} {rs : List ResultVar} {vs : List Value} (h : ResL P σ δ rs vs) : rs.length = vs.length := by
  induction h with
  | nil => rfl
  | cons _ _ ih => simp [ih]

def resOne (tmps : Array Value) : ResultVar → Sem Value
  | .tmp t => pure (tmps.getD t undef)
  | .cell p t => do loadVar t (← asAddr (tmps.getD p undef))
theorem run_resultsL {P : Program} {n : Nat} {a : Act} {w : World} (he : EnvOK n σ ds a) (hents : ∀ x ∈ δ, x.holds w) {rs : List ResultVar} {vs : List Value} (h : ResL P σ δ rs vs) :
    (rs.mapM (resOne a.tmps)).run P w = .ok vs w := by
  induction h with
  | nil => rfl
  | cons hv _ ih =>
    rename_i r v rs vs _
    have hone : (resOne a.tmps r).run P w = .ok v w := by
      cases hv with
      | tmp h => simp [resOne, he.val _ _ h]
      | cell h ht hh hv =>
        obtain ⟨us, hl, rfl, hu⟩ := ld_spec hv ht.one
        have hb := hents _ hh.mem
        have := run_loadAt ht (P := P) (w := w) hl (fun j v hj => by rw [add_plain, box_cell hb, Nat.zero_add]; exact hu j v hj)
        simp only [Instr.loadAt, Instr.sureAddr, Sem.run_bind, Sem.run_pure, Result.andThen] at this
        simp only [resOne, Array.getD_eq_getD_getElem?, he.val _ _ h, Option.getD_some, asAddr, Sem.run_bind, Sem.run_pure, Result.andThen]
        exact this
    simp only [List.mapM_cons, Sem.run_bind, hone, ih, Result.andThen, Sem.run_pure]

theorem run_results {P : Program} {fn : Func} {n : Nat} {a : Act} {w : World} (he : EnvOK n σ ds a) (hents : ∀ x ∈ δ, x.holds w) {rs : List ResultVar} {vs : List Value} (hf : fn.results = rs.toArray) (h : ResL P σ δ rs vs) :
    (results fn a.tmps).run P w = .ok (outV vs) w := by
  have h1 := run_resultsL (P := P) he hents h
  have h2 : results fn a.tmps = (do let vs ← (rs.toArray).mapM (resOne a.tmps); pure (if h : vs.size = 1 then vs[0] else .tuple vs)) := by
    rw [← hf]
    have : resOne a.tmps = (fun | .tmp t => pure (a.tmps.getD t undef) | .cell p t => do loadVar t (← asAddr (a.tmps.getD p undef))) := by funext r; cases r <;> rfl
    rw [this]
    rfl
  rw [h2]
  simp only [List.mapM_toArray, Sem.run_bind, Sem.run_map, h1, Result.andThen]
  match vs with
  | [] => simp [outV]
  | [v] => simp [outV]
  | _ :: _ :: _ => simp [outV]

def argEnv : Nat → List Value → Env
  | _, [] => []
  | k, v :: r => (k, v) :: argEnv (k + 1) r

theorem argEnv_ok : ∀ (vs : List Value) (k d : Nat) (v : Value), look d (argEnv k vs) = some v → k ≤ d ∧ vs[d - k]? = some v
  | [], _, _, _, h => by simp [argEnv, look] at h
  | u :: r, k, d, v, h => by
    rw [argEnv, look_cons] at h
    by_cases e : k = d
    · subst e; simp at h; subst h; simp
    · simp [e] at h
      obtain ⟨h1, h2⟩ := argEnv_ok r (k + 1) d v h
      refine ⟨by omega, ?_⟩
      have : d - k = (d - (k + 1)) + 1 := by omega
      rw [this]; simpa using h2

/-- The marks that a function leaves with are let go. -/
def MarkEnts (ds : List Nat) : List Ent := ds.map fun r => .obj r (.deferred (some []))

theorem leave_marks {P : Program} {fn : Func} {R : Value → Imm → List Ent → Prop} {w0 : World} {I0 : Imm} {δ0 δ1 : List Ent} {tmps : Array Value} {v : Value} (hsub : δ1.Sublist δ) :
    ∀ (ds : List Nat) (w : World), Sat w I (MarkEnts ds ++ δ) → Tr w0 I0 δ0 w I (MarkEnts ds ++ δ) → (∀ w', (∀ x ∈ δ, x.holds w') → (results fn tmps).run P w' = .ok v w') → R v I δ1 →
      LeavesInM Fence.wide 0 P fn tmps (Ret w0 I0 δ0 R) (marksOf ds) .returning w
  | [], w, hs, ht, hr, hR => ⟨v, hr w (fun x hx => hs.ents x hx), v, I, δ1, rfl, (Sat.sub hs hsub).1, ht.trans (Sat.sub hs hsub).2, hR⟩
  | d :: ds, w, hs, ht, hr, hR => by
    have hd : w.heap[d]? = some (.deferred (some [])) := hs.ents (.obj d (.deferred (some []))) (by simp [MarkEnts])
    have hlt : d < w.heap.size := (Array.getElem?_eq_some_iff.1 hd).1
    have hw1 : (w.putObj d (.deferred none)).heap[d]? = some (.deferred none) := by simp [World.putObj, hlt]
    obtain ⟨s1, t1⟩ := hs.swap (w' := w.putObj d (.deferred none)) (δ' := .obj d (.deferred none) :: (MarkEnts ds ++ δ)) (x := .obj d (.deferred (some []))) (x' := .obj d (.deferred none)) .here rfl rfl rfl (by simp [World.putObj])
      (fun b _ hb => World.putObj_heap_other (fun e => hb (by rw [e]; rfl))) hw1 (fun b hb => .inl hb)
    exact ⟨by simp, .inl ⟨d, _, rfl, run_takeDeferred hd, leave_marks hsub ds _ s1.drop.1 (ht.trans (t1.trans s1.drop.2)) hr hR⟩⟩

/-- A contract out of the body's walk. -/
theorem Does.intro {P : Program} {f : FuncId} {fn : Func} {c : Code} {n : Nat} {args : List Value} {R : Value → Imm → List Ent → Prop} (hf : P.funcs[f]? = some fn) (hb : fn.body = some c) (hn : fn.ntmps = n) (hle : Nat.ble args.length n = true)
    (h : ∀ w0, CodeJ ⟨P, none, n, w0, I, δ⟩ c (bodyPostM Fence.wide 0 P fn (Ret w0 I δ R)) (argEnv 0 args) [] I δ) : Does P f args I δ R := by
  intro w hs
  refine (callsIn_wide (n := 0)).1 (callsIn_of_wp_marks hf hb trivial ?_ rfl)
  have hle' : args.length ≤ n := by simpa [Nat.ble_eq] using hle
  refine h w _ w ⟨by simp [hn]; omega, fun d v hd => ?_, rfl⟩ hs (Tr.refl _ _ _)
  obtain ⟨_, h2⟩ := argEnv_ok args 0 d v hd
  have hlt : d < args.length := (List.getElem?_eq_some_iff.1 (by simpa using h2)).1
  rw [Array.getElem?_append_left (by simpa using hlt)]
  simpa using h2

theorem post_ret {P : Program} {fn : Func} {r : Option Nat} {n : Nat} {w0 : World} {I0 : Imm} {δ0 δ' δ1 : List Ent} {R : Value → Imm → List Ent → Prop} {rs : List ResultVar} {vs : List Value}
    (hf : fn.results = rs.toArray) (hm : δ.Perm (MarkEnts ds ++ δ')) (hv : ResL P σ δ' rs vs) (hsub : δ1.Sublist δ') (hR : R (outV vs) I δ1) :
    PostJ ⟨P, r, n, w0, I0, δ0⟩ (bodyPostM Fence.wide 0 P fn (Ret w0 I0 δ0 R)) .ret σ ds I δ := by
  intro a w he hs ht
  show LeavesInM Fence.wide 0 P fn a.tmps _ a.defers .returning w
  rw [he.defers]
  exact leave_marks hsub ds w (hs.perm hm) (ht.permR hm) (fun w' hw' => run_results he hw' hf hv) hR
theorem post_end {P : Program} {fn : Func} {r : Option Nat} {n : Nat} {w0 : World} {I0 : Imm} {δ0 δ' δ1 : List Ent} {R : Value → Imm → List Ent → Prop} {rs : List ResultVar} {vs : List Value}
    (hf : fn.results = rs.toArray) (hm : δ.Perm (MarkEnts ds ++ δ')) (hv : ResL P σ δ' rs vs) (hsub : δ1.Sublist δ') (hR : R (outV vs) I δ1) :
    PostJ ⟨P, r, n, w0, I0, δ0⟩ (bodyPostM Fence.wide 0 P fn (Ret w0 I0 δ0 R)) .normal σ ds I δ :=
  post_ret (r := r) hf hm hv hsub hR
end Go.Proofs.Ythbcdffldcdfoaa.Lg
