/- The rules of the logic: pointers against nil, division, entries that are taken out of a map. No condition. -/
import Derived.Test.YthbcdffldcdfoaaLgi
set_option linter.unusedVariables false
set_option linter.unusedSimpArgs false
namespace Go.Proofs.Ythbcdffldcdfoaa.Lg
open Go Go.RowKit

variable {C : Ctx} {Q : Exit → Act → World → Prop} {σ : Env} {ds : List Nat} {I : Imm} {δ : List Ent} {ops : Array Oper} {rest : List Oper}
variable {d : Nat} {ty : TypeId} {pos : String} {after : Array Edge}

theorem v_ptrq {op : BinOp} {t e : TypeId} {t' : TypeId} {x y : Operand} {p : Option Addr} {z : Bool} (ht : C.P.underlying t = some (.pointer e))
    (hx : evS σ x = some (.pointer p)) (hy : evS σ y = some (.pointer none)) (hz : cmpN op p = some z) : ValJ C σ ds I δ (.binOp op t x y t') (.bool z) :=
  v_bin hx hy (fun w => by unfold eqGuard; cases op <;> rfl) (fun w => by
    have hu : (underlying t).run C.P w = .ok (.pointer e) w := by simp [underlying, program, Sem.run, ht]
    have he : (Op.equal t (.pointer p) (.pointer none)).run C.P w = .ok p.isNone w := by
      show (Op.equalIn (9999 + 1) t (.pointer p) (.pointer none)).run C.P w = _
      rw [Op.equalIn]
      simp only [Sem.run_bind, hu, Result.andThen]
      cases p <;> rfl
    have h2 : ∀ f : Bool → Bool, (do pure (Value.bool (f (← Op.equal t (.pointer p) (.pointer none)))) : Sem Value).run C.P w = .ok (.bool (f p.isNone)) w := fun f => by simp only [Sem.run_bind, he, Result.andThen]; rfl
    cases op <;> simp only [cmpN, Option.some.injEq, reduceCtorEq] at hz
    · subst hz; exact h2 id
    · subst hz; have := h2 not; cases p <;> exact this)
theorem v_quob {t t' : TypeId} {x y : Operand} {a b c : Int} (hx : evS σ x = some (.int .i64 a)) (hy : evS σ y = some (.int .i64 b)) (hn : b ≠ 0) (hc : a.tdiv b = c) (hb : -9223372036854775808 ≤ c ∧ c ≤ 9223372036854775807) : ValJ C σ ds I δ (.binOp .quo t x y t') (.int .i64 c) :=
  v_bin hx hy (fun _ => guard_int ..) (fun w => by
    show (Op.intDiv .quo .i64 a b).run C.P w = _
    unfold Op.intDiv
    rw [if_neg hn]
    show Result.ok (Value.int .i64 (IntKind.i64.wrap (a.tdiv b))) w = _
    rw [hc, wrap_id hb])
theorem v_remb {t t' : TypeId} {x y : Operand} {a b c : Int} (hx : evS σ x = some (.int .i64 a)) (hy : evS σ y = some (.int .i64 b)) (hn : b ≠ 0) (hc : a.tmod b = c) : ValJ C σ ds I δ (.binOp .rem t x y t') (.int .i64 c) :=
  v_bin hx hy (fun _ => guard_int ..) (fun w => by
    show (Op.intDiv .rem .i64 a b).run C.P w = _
    unfold Op.intDiv
    rw [if_neg hn]
    show Result.ok (Value.int .i64 (a.tmod b)) w = _
    rw [hc])

theorem map_eraseIdx' {α β : Type} (f : α → β) : ∀ (l : List α) (j : Nat), (l.eraseIdx j).map f = (l.map f).eraseIdx j
  | [], _ => rfl
  | _ :: _, 0 => rfl
  | x :: l, j + 1 => by simp [map_eraseIdx' f l j]
theorem mget_erase : ∀ (xs : Mp) (j : Nat) (k : Int), (xs.map (·.1)).Nodup → (xs.map (·.1))[j]? = some k → ∀ q, mget (xs.eraseIdx j) q = if q = k then none else mget xs q
  | [], j, k, _, h, _ => by simp at h
  | p :: r, 0, k, hn, h, q => by
    simp only [List.map_cons, List.getElem?_cons_zero, Option.some.injEq] at h
    simp only [List.map_cons, List.nodup_cons] at hn
    rw [List.eraseIdx_cons_zero]
    by_cases e : q = k
    · rw [if_pos e, mget_none, e, ← h]; exact hn.1
    · rw [if_neg e]
      obtain ⟨a, v⟩ := p
      simp only at h
      have : ¬ a = q := by rw [h]; exact fun e2 => e e2.symm
      simp [mget, this]
  | p :: r, j + 1, k, hn, h, q => by
    simp only [List.map_cons, List.getElem?_cons_succ] at h
    simp only [List.map_cons, List.nodup_cons] at hn
    rw [List.eraseIdx_cons_succ]
    obtain ⟨a, v⟩ := p
    have ha : a ≠ k := fun e => hn.1 (by rw [e]; exact List.mem_of_getElem? h)
    have ih := mget_erase r j k hn.2 h q
    by_cases e : a = q
    · have : ¬ q = k := fun e2 => ha (e.trans e2)
      simp [mget, e, this]
    · simp only [mget, e, if_false]; exact ih
theorem o_delete {t kt e : TypeId} {tk : TypeId} {m x : Operand} {b : Nat} {xs : Mp} {k : Int} {δ' : Mp → List Ent} (ht : C.P.underlying t = some (.map kt e)) (hk : C.P.underlying kt = some (.int .i64))
    (hm : evS σ m = some (.map (some b))) (hx : evS σ x = some (.int .i64 k)) (hh : ∀ ys, Swap δ (.map b xs) (δ' ys) (.map b ys)) (kk : ∀ ys, (∀ q, mget ys q = if q = k then none else mget xs q) → OpsJ C ops Q rest σ ds I (δ' ys)) :
    OpsJ C ops Q ({ dst := none, op := .call { callee := .builtin .delete, args := #[m, x], argTypes := #[t, tk] }, type := ty, pos := pos, after := after, guard := none } :: rest) σ ds I δ :=
  op_actv rfl rfl (by intro c hc; cases hc) (fun a w he hs => by
    obtain ⟨l, r, hl1, hl2⟩ := (hh []).split
    obtain ⟨es, clock, hb, hmi⟩ := hs.ents (.map b xs) (by rw [hl1]; simp)
    have hu : (underlying t).run C.P w = .ok (.map kt e) w := by simp [underlying, program, Sem.run, ht]
    have hc : (Instr.checkKey es.isEmpty 10000 kt (.int .i64 k)).run C.P w = .ok () w := MapKept.run_checkKey (w := w) hk (k := .int .i64 k) rfl es.isEmpty 9999
    rcases find_mp es.toList xs k 0 hmi.kv with ⟨g1, g2, g3⟩ | ⟨j, v0, e', g1, g2, g3, g4, g5, g6⟩
    · have hf := MapKept.run_findKey (w := w) hk g2
      have hset := MapKept.heap_set (o' := .map es clock) hb
      obtain ⟨s', t'⟩ := hs.swap (w' := { w with heap := w.heap.setIfInBounds b (.map es clock) }) (hh xs) rfl rfl rfl (by simp) (fun c _ hc => hset.2 c (fun e => hc (by rw [e]; rfl))) ⟨_, _, hset.1, hmi⟩ (fun c hc => .inl hc)
      refine ⟨.tuple #[], _, I, _, ?_, s', t', kk xs (fun q => by split; (rename_i hq; rw [hq]; exact g1); rfl)⟩
      simp [execOp, resolve, invoke, builtin, Builtin.delete_, he.ev hm, he.ev hx, hu, MapKept.run_getObj_map hb, hc, hf, MapKept.run_setObj_map _ hb, Result.andThen]
    · have hf := MapKept.run_findKey (w := w) hk g2
      simp only [Nat.zero_add] at hf
      have hlt : j < es.size := by simpa using (List.getElem?_eq_some_iff.1 g3).1
      have hel : (es.eraseIdxIfInBounds j).toList = es.toList.eraseIdx j := by simp [Array.eraseIdxIfInBounds, hlt]
      have hkj : (xs.map (·.1))[j]? = some k := by
        have := congrArg (fun l => l[j]?) hmi.kv
        simp only [List.getElem?_map, g3, Option.map_some] at this
        cases hx : xs[j]? with
        | none => simp [hx] at this
        | some p => simp [hx, g4] at this; simp [hx, this]
      have hmi' : MapIs (es.eraseIdxIfInBounds j) clock (xs.eraseIdx j) := by
        refine ⟨?_, ?_, ?_, ?_⟩
        · rw [hel, map_eraseIdx', map_eraseIdx', hmi.kv]
        · rw [map_eraseIdx']; exact hmi.keys.sublist (List.eraseIdx_sublist _ _)
        · rw [hel, map_eraseIdx']; exact hmi.born.sublist (List.eraseIdx_sublist _ _)
        · intro x hx; rw [hel] at hx; exact hmi.old x (List.mem_of_mem_eraseIdx hx)
      have hset := MapKept.heap_set (o' := .map (es.eraseIdxIfInBounds j) clock) hb
      obtain ⟨s', t'⟩ := hs.swap (w' := { w with heap := w.heap.setIfInBounds b (.map (es.eraseIdxIfInBounds j) clock) }) (hh (xs.eraseIdx j)) rfl rfl rfl (by simp) (fun c _ hc => hset.2 c (fun e => hc (by rw [e]; rfl))) ⟨_, _, hset.1, hmi'⟩ (fun c hc => .inl hc)
      refine ⟨.tuple #[], _, I, _, ?_, s', t', kk _ (mget_erase xs j k hmi.keys hkj)⟩
      simp [execOp, resolve, invoke, builtin, Builtin.delete_, he.ev hm, he.ev hx, hu, MapKept.run_getObj_map hb, hc, hf, MapKept.run_setObj_map _ hb, Result.andThen])
/-! ### acts that leave all that some floats of a region look at -/
def keepP (l : List Nat) (A : List Ent) (i : Nat) : List Ent := bif l.elem i then A else []
theorem keepP_sub {l : List Nat} {A : List Ent} (h : A.Sublist δ) (i : Nat) : (keepP l A i).Sublist δ := by
  unfold keepP; cases l.elem i
  · exact List.nil_sublist _
  · exact h
theorem keepP_mem {l : List Nat} {A : List Ent} (h : ∀ x ∈ A, x ∈ δ) (i : Nat) : ∀ x ∈ keepP l A i, x ∈ δ := by
  intro x hx; unfold keepP at hx
  cases hq : l.elem i
  · rw [hq] at hx; cases hx
  · rw [hq] at hx; exact h x hx
theorem side_P {Ib : Imm} {l : List Nat} {A : List Ent} {pend : Pend} (hp : pend.all (fun p => !(l.elem p.1)) = true) (h1 : Ib.le I) : Side Ib I (keepP l A) pend δ := fun p hm => by
  have := List.all_eq_true.1 hp p hm
  simp only [Bool.not_eq_true'] at this
  refine ⟨h1, fun x hx => ?_⟩
  unfold keepP at hx
  rw [this] at hx; cases hx
end Go.Proofs.Ythbcdffldcdfoaa.Lg
