/- The rules of the logic for maps whose keys are whole numbers. No condition. -/
import Derived.Test.YthbcdffldcdfoaaLgf
import Derived.Maps.RangeRun
import Derived.MapKept
set_option linter.unusedVariables false
set_option linter.unusedSimpArgs false
namespace Go.Proofs.Ythbcdffldcdfoaa.Lg
open Go Go.RowKit

/-! ### entries -/
def mget : Mp → Int → Option Value
  | [], _ => none
  | (k', v) :: r, k => if k' = k then some v else mget r k
def mput : Mp → Int → Value → Mp
  | [], k, v => [(k, v)]
  | (k', u) :: r, k, v => if k' = k then (k, v) :: r else (k', u) :: mput r k v

theorem mput_mput : ∀ (xs : Mp) (k : Int) (u v : Value), mput (mput xs k u) k v = mput xs k v
  | [], k, u, v => by simp [mput]
  | (k', z) :: r, k, u, v => by
    by_cases h : k' = k
    · subst h; simp [mput]
    · simp [mput, h, mput_mput r k u v]
theorem mget_mput : ∀ (xs : Mp) (k j : Int) (v : Value), mget (mput xs k v) j = if k = j then some v else mget xs j
  | [], k, j, v => by simp [mput, mget]
  | (k', z) :: r, k, j, v => by
    by_cases h : k' = k
    · subst h; simp only [mput, if_true, mget]; split <;> rfl
    · simp only [mput, if_neg h, mget, mget_mput r k j v]
      by_cases h2 : k' = j
      · subst h2; simp [Ne.symm h]
      · simp [h2]
theorem mput_keys : ∀ (xs : Mp) (k : Int) (v : Value), (mput xs k v).map (·.1) = if mget xs k = none then xs.map (·.1) ++ [k] else xs.map (·.1)
  | [], k, v => by simp [mput, mget]
  | (k', z) :: r, k, v => by
    by_cases h : k' = k
    · subst h; simp [mput, mget]
    · simp only [mput, if_neg h, mget, List.map_cons, mput_keys r k v]
      split <;> simp
theorem mget_none : ∀ {xs : Mp} {k : Int}, mget xs k = none ↔ k ∉ xs.map (·.1)
  | [], k => by simp [mget]
  | (k', z) :: r, k => by
    by_cases h : k' = k
    · subst h; simp [mget]
    · have := mget_none (xs := r) (k := k)
      simp only [mget, if_neg h, this, List.map_cons, List.mem_cons, not_or]
      exact ⟨fun h2 => ⟨fun e => h e.symm, h2⟩, fun h2 => h2.2⟩
theorem mget_mem : ∀ {xs : Mp} {k : Int} {v : Value}, (xs.map (·.1)).Nodup → ((k, v) ∈ xs ↔ mget xs k = some v)
  | [], k, v, _ => by simp [mget]
  | (k', z) :: r, k, v, hn => by
    simp only [List.map_cons, List.nodup_cons] at hn
    by_cases h : k' = k
    · subst h
      simp only [mget, if_true, List.mem_cons, Prod.mk.injEq, true_and, Option.some.injEq]
      constructor
      · rintro (h | h)
        · exact h.symm
        · exact absurd (List.mem_map_of_mem (f := (·.1)) h) hn.1
      · intro h; exact .inl h.symm
    · have := mget_mem (xs := r) (k := k) (v := v) hn.2
      simp only [mget, if_neg h, ← this, List.mem_cons, Prod.mk.injEq]
      constructor
      · rintro (⟨h2, _⟩ | h2)
        · exact absurd h2.symm h
        · exact h2
      · intro h2; exact .inr h2
theorem mput_nodup {xs : Mp} {k : Int} {v : Value} (h : (xs.map (·.1)).Nodup) : ((mput xs k v).map (·.1)).Nodup := by
  rw [mput_keys]
  split
  · rename_i hn
    rw [mget_none] at hn
    rw [List.nodup_append]
    exact ⟨h, by simp, fun a ha b hb => by simp at hb; subst hb; exact fun e => hn (e ▸ ha)⟩
  · exact h
theorem mput_length (xs : Mp) (k : Int) (v : Value) : (mput xs k v).length ≤ xs.length + 1 := by
  have := congrArg List.length (mput_keys xs k v)
  simp only [List.length_map] at this
  rw [this]; split <;> simp

/-- Where a key stands. -/
theorem find_mp : ∀ (l : List MapEntry) (xs : Mp) (k : Int) (i : Nat), l.map (fun e => (e.key, e.val)) = xs.map (fun p => (Value.int .i64 p.1, p.2)) →
    (mget xs k = none ∧ Instr.findNow (.int .i64) (.int .i64 k) l i = some none ∧ ∀ v, mput xs k v = xs ++ [(k, v)]) ∨
    ∃ j v e, mget xs k = some v ∧ Instr.findNow (.int .i64) (.int .i64 k) l i = some (some (i + j, v)) ∧ l[j]? = some e ∧ e.key = .int .i64 k ∧ e.val = v ∧ ∀ u, mput xs k u = xs.set j (k, u)
  | [], xs, k, i, h => by
    have : xs = [] := by cases xs <;> simp_all
    subst this
    exact .inl ⟨rfl, rfl, fun _ => rfl⟩
  | e :: l, [], k, i, h => by simp at h
  | e :: l, (k', z) :: r, k, i, h => by
    simp only [List.map_cons, List.cons.injEq, Prod.mk.injEq] at h
    obtain ⟨⟨h1, h2⟩, h3⟩ := h
    by_cases hk : k' = k
    · subst hk
      refine .inr ⟨0, z, e, by simp [mget], ?_, rfl, h1, h2, fun u => by simp [mput]⟩
      simp [Instr.findNow, Instr.sameNow, h1, h2]
    · have hs : Instr.sameNow (.int .i64) (.int .i64 k) e.key = some false := by
        rw [h1]; simp [Instr.sameNow]; exact fun e => hk e.symm
      rcases find_mp l r k (i + 1) h3 with ⟨g1, g2, g3⟩ | ⟨j, v, e', g1, g2, g3, g4, g5, g6⟩
      · exact .inl ⟨by simp [mget, hk, g1], by simp [Instr.findNow, hs, g2], fun v => by simp [mput, hk, g3]⟩
      · refine .inr ⟨j + 1, v, e', by simp [mget, hk, g1], ?_, by simpa using g3, g4, g5, fun u => by simp [mput, hk, g6]⟩
        simp only [Instr.findNow, hs, g2]
        congr 3; omega

variable {C : Ctx} {Q : Exit → Act → World → Prop} {σ : Env} {ds : List Nat} {I : Imm} {δ : List Ent} {ops : Array Oper} {rest : List Oper}
variable {d : Nat} {ty : TypeId} {pos : String} {after : Array Edge}

theorem run_zero {P : Program} {e : TypeId} {z : Value} (hz : (P.info? e).map (·.zero) = some (some z)) (w : World) : (zeroValue e).run P w = .ok z w := by
  cases hq : P.info? e with
  | none => simp [hq] at hz
  | some i => simp [hq] at hz; simp [zeroValue, typeInfo, program, Sem.run, hq, hz]

/-! ### a new map -/
theorem o_makeMap {t : TypeId} (hd : Nat.blt d C.n = true) (k : ∀ b, OpsJ C ops Q rest ((d, .map (some b)) :: σ) ds I (.map b [] :: δ)) :
    OpsJ C ops Q ({ dst := some d, op := .makeMap t none, type := ty, pos := pos, after := after, guard := none } :: rest) σ ds I δ :=
  op_step rfl rfl hd (by intro c hc; cases hc) (fun a w he hs => by
    obtain ⟨s', t'⟩ := hs.alloc (.map w.heap.size []) (.map #[] 0) rfl ⟨#[], 0, heap_alloc_new w _, by simp, by simp, by simp, by simp⟩
    refine ⟨_, _, _, _, ?_, s', t', k w.heap.size⟩
    simp [execOp, Instr.makeMap, newObj, Sem.run])

/-! ### reading -/
theorem run_lookup {P : Program} {t kt e : TypeId} (ht : P.underlying t = some (.map kt e)) (hk : P.underlying kt = some (.int .i64)) {z : Value} (hz : (P.info? e).map (·.zero) = some (some z)) {w : World} {b : Nat} {xs : Mp} (h : (Ent.map b xs).holds w) (k : Int) (ok : Bool) :
    (Instr.lookup t (.map (some b)) (.int .i64 k) ok).run P w = .ok (if ok then .tuple #[(mget xs k).getD z, .bool (mget xs k).isSome] else (mget xs k).getD z) w := by
  obtain ⟨es, clock, hb, hm⟩ := h
  have hu : (underlying t).run P w = .ok (.map kt e) w := by simp [underlying, program, Sem.run, ht]
  have hc : (Instr.checkKey es.isEmpty 10000 kt (.int .i64 k)).run P w = .ok () w := MapKept.run_checkKey (w := w) hk (k := .int .i64 k) rfl es.isEmpty 9999
  rcases find_mp es.toList xs k 0 hm.kv with ⟨g1, g2, _⟩ | ⟨j, v, e', g1, g2, _⟩
  · have hf := MapKept.run_findKey (w := w) hk g2
    simp [Instr.lookup, hu, MapKept.run_getObj_map hb, Result.andThen]
    rw [hc]
    simp [hf, run_zero hz, g1]
  · have hf := MapKept.run_findKey (w := w) hk g2
    simp [Instr.lookup, hu, MapKept.run_getObj_map hb, Result.andThen]
    rw [hc]
    simp [hf, run_zero hz, g1]

theorem v_mlook {t kt e : TypeId} {x y : Operand} {b : Nat} {xs : Mp} {k : Int} {z v : Value} (ht : C.P.underlying t = some (.map kt e)) (hk : C.P.underlying kt = some (.int .i64)) (hz : (C.P.info? e).map (·.zero) = some (some z))
    (hx : evS σ x = some (.map (some b))) (hy : evS σ y = some (.int .i64 k)) (hh : Has δ (.map b xs)) (hv : (mget xs k).getD z = v) : ValJ C σ ds I δ (.lookup t x y false) v :=
  fun _ _ _ _ _ a w he hs => by subst hv; simp [execOp, he.ev hx, he.ev hy, run_lookup ht hk hz (hs.ents _ hh.mem) k false]
theorem v_mlook2 {t kt e : TypeId} {x y : Operand} {b : Nat} {xs : Mp} {k : Int} {z v : Value} {g : Bool} (ht : C.P.underlying t = some (.map kt e)) (hk : C.P.underlying kt = some (.int .i64)) (hz : (C.P.info? e).map (·.zero) = some (some z))
    (hx : evS σ x = some (.map (some b))) (hy : evS σ y = some (.int .i64 k)) (hh : Has δ (.map b xs)) (hv : (mget xs k).getD z = v) (hg : (mget xs k).isSome = g) : ValJ C σ ds I δ (.lookup t x y true) (.tuple #[v, .bool g]) :=
  fun _ _ _ _ _ a w he hs => by subst hv; subst hg; simp [execOp, he.ev hx, he.ev hy, run_lookup ht hk hz (hs.ents _ hh.mem) k true]
theorem v_mlen {t kt e : TypeId} {x : Operand} {b : Nat} {xs : Mp} (ht : C.P.underlying t = some (.map kt e)) (hx : evS σ x = some (.map (some b))) (hh : Has δ (.map b xs)) :
    ValJ C σ ds I δ (.call { callee := .builtin .len, args := #[x], argTypes := #[t] }) (.int .i64 xs.length) :=
  fun _ _ _ _ _ a w he hs => by
    obtain ⟨es, clock, hb, hm⟩ := hs.ents _ hh.mem
    have hu : (underlying t).run C.P w = .ok (.map kt e) w := by simp [underlying, program, Sem.run, ht]
    have hl : es.size = xs.length := by have := congrArg List.length hm.kv; simpa using this
    simp [execOp, resolve, invoke, builtin, Builtin.len_, he.ev hx, hu, goInt, MapKept.run_getObj_map hb, hl]

/-! ### writing -/
theorem keyStays {P : Program} (k : Int) (w : World) : (Instr.keyThatStays (.int .i64 k) (.int .i64 k)).run P w = .ok (.int .i64 k) w := MapKept.run_keyThatStays (d := .int .i64) rfl

theorem MapIs.set {es : Array MapEntry} {clock : Nat} {xs : Mp} (h : MapIs es clock xs) {j : Nat} {e : MapEntry} {k : Int} {v : Value} (he : es.toList[j]? = some e) (hk : e.key = .int .i64 k) (f : MapEntry → MapEntry) (hf : (f e).key = .int .i64 k ∧ (f e).val = v ∧ (f e).born = e.born) (hp : mput xs k v = xs.set j (k, v)) :
    MapIs (es.modify j f) clock (mput xs k v) := by
  have hlt : j < es.size := by simpa using (List.getElem?_eq_some_iff.1 he).1
  have hm : (es.modify j f).toList = es.toList.set j (f e) := by
    apply List.ext_getElem?
    intro i
    rw [Array.getElem?_toList, Array.getElem?_modify, List.getElem?_set]
    have h2 : es[j]? = some e := by simpa using he
    by_cases hij : j = i
    · subst hij
      obtain ⟨_, he'⟩ := Array.getElem?_eq_some_iff.1 h2
      simp [hlt, he']
    · simp [hij]
  refine ⟨?_, mput_nodup h.keys, ?_, ?_⟩
  · rw [hm, hp, List.map_set, List.map_set, h.kv, hf.1, hf.2.1]
  · rw [hm, List.map_set, hf.2.2]
    have : (es.toList.map (·.born)).set j e.born = es.toList.map (·.born) := by
      apply List.ext_getElem?
      intro i
      rw [List.getElem?_set]
      by_cases hij : j = i
      · subst hij
        have : (es.toList.map (·.born))[j]? = some e.born := by rw [List.getElem?_map, he]; rfl
        rw [this]; simp [hlt]
      · simp [hij]
    rw [this]; exact h.born
  · intro x hx
    rw [hm] at hx
    rcases List.mem_or_eq_of_mem_set hx with hx | rfl
    · exact h.old x hx
    · rw [hf.2.2]; exact h.old e (List.mem_of_getElem? he)

theorem MapIs.push {es : Array MapEntry} {clock : Nat} {xs : Mp} (h : MapIs es clock xs) {k : Int} {v : Value} (hn : mget xs k = none) (hp : mput xs k v = xs ++ [(k, v)]) :
    MapIs (es.push { key := .int .i64 k, val := v, born := clock }) (clock + 1) (mput xs k v) := by
  refine ⟨by rw [hp]; simp [h.kv], mput_nodup h.keys, ?_, ?_⟩
  · rw [Array.toList_push, List.map_append, List.nodup_append]
    refine ⟨h.born, by simp, fun a ha b hb => ?_⟩
    simp at hb
    obtain ⟨x, hx, rfl⟩ := List.mem_map.1 ha
    have := h.old x hx
    intro e; omega
  · intro x hx
    rw [Array.toList_push, List.mem_append] at hx
    rcases hx with hx | hx
    · have := h.old x hx; omega
    · simp at hx; subst hx; simp

theorem o_mapUpdate {t kt e : TypeId} {m x y : Operand} {b : Nat} {xs ys : Mp} {k : Int} {v : Value} {δ' : List Ent} (ht : C.P.underlying t = some (.map kt e)) (hk : C.P.underlying kt = some (.int .i64))
    (hm : evS σ m = some (.map (some b))) (hx : evS σ x = some (.int .i64 k)) (hy : evS σ y = some v) (hys : mput xs k v = ys) (hh : Swap δ (.map b xs) δ' (.map b ys)) (kk : OpsJ C ops Q rest σ ds I δ') :
    OpsJ C ops Q ({ dst := none, op := .mapUpdate t m x y, type := ty, pos := pos, after := after, guard := none } :: rest) σ ds I δ :=
  op_act rfl rfl (by intro c hc; cases hc) (fun a w he hs => by
    subst hys
    obtain ⟨l, r, hl1, hl2⟩ := hh.split
    obtain ⟨es, clock, hb, hmi⟩ := hs.ents (.map b xs) (by rw [hl1]; simp)
    have hu : (underlying t).run C.P w = .ok (.map kt e) w := by simp [underlying, program, Sem.run, ht]
    have hc : (Instr.checkKey false 10000 kt (.int .i64 k)).run C.P w = .ok () w := MapKept.run_checkKey (w := w) hk (k := .int .i64 k) rfl false 9999
    rcases find_mp es.toList xs k 0 hmi.kv with ⟨g1, g2, g3⟩ | ⟨j, v0, e', g1, g2, g3, g4, g5, g6⟩
    · have hf := MapKept.run_findKey (w := w) hk g2
      have hset := MapKept.heap_set (o' := .map (es.push { key := .int .i64 k, val := v, born := clock }) (clock + 1)) hb
      obtain ⟨s', t'⟩ := hs.swap (w' := { w with heap := w.heap.setIfInBounds b (.map (es.push { key := .int .i64 k, val := v, born := clock }) (clock + 1)) }) hh rfl rfl rfl (by simp) (fun c _ hc => hset.2 c (fun e => hc (by rw [e]; rfl))) ⟨_, _, hset.1, hmi.push g1 (g3 v)⟩ (fun c hc => .inl hc)
      refine ⟨_, I, δ', ?_, s', t', kk⟩
      simp [execOp, he.ev hm, he.ev hx, he.ev hy, Instr.mapUpdate, hu, MapKept.run_getObj_map hb, hc, hf, MapKept.run_setObj_map _ hb, Result.andThen]
    · have hf := MapKept.run_findKey (w := w) hk g2
      simp only [Nat.zero_add] at hf
      have h2 : es[j]? = some e' := by simpa using g3
      have hset := MapKept.heap_set (o' := .map (es.modify j fun e => { e with key := .int .i64 k, val := v }) clock) hb
      obtain ⟨s', t'⟩ := hs.swap (w' := { w with heap := w.heap.setIfInBounds b (.map (es.modify j fun e => { e with key := .int .i64 k, val := v }) clock) }) hh rfl rfl rfl (by simp) (fun c _ hc => hset.2 c (fun e => hc (by rw [e]; rfl))) ⟨_, _, hset.1, hmi.set g3 g4 _ ⟨rfl, rfl, rfl⟩ (g6 v)⟩ (fun c hc => .inl hc)
      refine ⟨_, I, δ', ?_, s', t', kk⟩
      simp [execOp, he.ev hm, he.ev hx, he.ev hy, Instr.mapUpdate, hu, MapKept.run_getObj_map hb, hc, hf, h2, g4, keyStays, MapKept.run_setObj_map _ hb, Result.andThen])

/-- The entry of a key has this stamp. -/
def Stamp (es : Array MapEntry) (k : Int) (s : Nat) : Prop := ∃ (j : Nat) (e : MapEntry), es.toList[j]? = some e ∧ e.key = .int .i64 k ∧ e.born = s

theorem o_mapEntry {t kt e : TypeId} {m x : Operand} {b : Nat} {xs : Mp} {k : Int} {z : Value} {δ' : Array MapEntry → Nat → List Ent} (ht : C.P.underlying t = some (.map kt e)) (hk : C.P.underlying kt = some (.int .i64)) (hz : (C.P.info? e).map (·.zero) = some (some z))
    (hm : evS σ m = some (.map (some b))) (hx : evS σ x = some (.int .i64 k)) (hd : Nat.blt d C.n = true) (hh : ∀ es clock, Swap δ (.map b xs) (δ' es clock) (.obj b (.map es clock)))
    (kk : ∀ es clock s, MapIs es clock (mput xs k ((mget xs k).getD z)) → Stamp es k s → OpsJ C ops Q rest ((d, .tuple #[(mget xs k).getD z, .int .i64 s]) :: σ) ds I (δ' es clock)) :
    OpsJ C ops Q ({ dst := some d, op := .mapEntry t m x, type := ty, pos := pos, after := after, guard := none } :: rest) σ ds I δ :=
  op_step rfl rfl hd (by intro c hc; cases hc) (fun a w he hs => by
    obtain ⟨l, r, hl1, hl2⟩ := (hh #[] 0).split
    obtain ⟨es, clock, hb, hmi⟩ := hs.ents (.map b xs) (by rw [hl1]; simp)
    have hu : (underlying t).run C.P w = .ok (.map kt e) w := by simp [underlying, program, Sem.run, ht]
    have hc : (Instr.checkKey false 10000 kt (.int .i64 k)).run C.P w = .ok () w := MapKept.run_checkKey (w := w) hk (k := .int .i64 k) rfl false 9999
    rcases find_mp es.toList xs k 0 hmi.kv with ⟨g1, g2, g3⟩ | ⟨j, v0, e', g1, g2, g3, g4, g5, g6⟩
    · have hf := MapKept.run_findKey (w := w) hk g2
      have hset := MapKept.heap_set (o' := .map (es.push { key := .int .i64 k, val := z, born := clock }) (clock + 1)) hb
      have hmi' := hmi.push (v := z) g1 (g3 z)
      obtain ⟨s', t'⟩ := hs.swap (w' := { w with heap := w.heap.setIfInBounds b (.map (es.push { key := .int .i64 k, val := z, born := clock }) (clock + 1)) }) (hh _ _) rfl rfl rfl (by simp) (fun c _ hc => hset.2 c (fun e => hc (by rw [e]; rfl))) hset.1 (fun c hc => .inl hc)
      refine ⟨_, _, I, _, ?_, s', t', kk _ _ clock (by rw [g1]; exact hmi') ⟨es.size, { key := .int .i64 k, val := z, born := clock }, by simp, rfl, rfl⟩⟩
      simp [execOp, he.ev hm, he.ev hx, Instr.mapEntry, hu, MapKept.run_getObj_map hb, hc, hf, run_zero hz, MapKept.run_setObj_map _ hb, Result.andThen, g1, goInt]
    · have hf := MapKept.run_findKey (w := w) hk g2
      simp only [Nat.zero_add] at hf
      have h2 : es[j]? = some e' := by simpa using g3
      have hset := MapKept.heap_set (o' := .map (es.modify j fun e => { e with key := .int .i64 k }) clock) hb
      have hmi' := hmi.set (v := v0) g3 g4 (fun e => { e with key := .int .i64 k }) ⟨rfl, g5, rfl⟩ (g6 v0)
      obtain ⟨s', t'⟩ := hs.swap (w' := { w with heap := w.heap.setIfInBounds b (.map (es.modify j fun e => { e with key := .int .i64 k }) clock) }) (hh _ _) rfl rfl rfl (by simp) (fun c _ hc => hset.2 c (fun e => hc (by rw [e]; rfl))) hset.1 (fun c hc => .inl hc)
      have hlt : j < es.size := by simpa using (List.getElem?_eq_some_iff.1 g3).1
      refine ⟨_, _, I, _, ?_, s', t', kk _ _ e'.born (by rw [g1]; exact hmi') ⟨j, { e' with key := .int .i64 k }, by rw [Array.getElem?_toList, Array.getElem?_modify]; simp [h2], rfl, rfl⟩⟩
      simp [execOp, he.ev hm, he.ev hx, Instr.mapEntry, hu, MapKept.run_getObj_map hb, hc, hf, h2, g4, keyStays, MapKept.run_setObj_map _ hb, Result.andThen, g1, goInt])

theorem find_stamp : ∀ (l : List MapEntry) (j : Nat) (e : MapEntry), (l.map (·.born)).Nodup → l[j]? = some e → l.findIdx? (fun x => (x.born : Int) == (e.born : Int)) = some j
  | [], j, e, _, h => by simp at h
  | x :: l, 0, e, hn, h => by
    simp at h; subst h
    simp [List.findIdx?_cons]
  | x :: l, j + 1, e, hn, h => by
    simp only [List.map_cons, List.nodup_cons] at hn
    simp only [List.getElem?_cons_succ] at h
    have hne : x.born ≠ e.born := fun e1 => hn.1 (e1 ▸ List.mem_map_of_mem (List.mem_of_getElem? h))
    have : ((x.born : Int) == (e.born : Int)) = false := by simp; omega
    simp [List.findIdx?_cons, this, find_stamp l j e hn.2 h]

theorem o_entryStore {t : TypeId} {m x y : Operand} {b : Nat} {es : Array MapEntry} {clock s : Nat} {xs ys : Mp} {k : Int} {v : Value} {δ' : List Ent} (hmi : MapIs es clock xs) (hst : Stamp es k s)
    (hm : evS σ m = some (.map (some b))) (hx : evS σ x = some (.int .i64 s)) (hy : evS σ y = some v) (hys : mput xs k v = ys) (hh : Swap δ (.obj b (.map es clock)) δ' (.map b ys)) (kk : OpsJ C ops Q rest σ ds I δ') :
    OpsJ C ops Q ({ dst := none, op := .entryStore t m x y, type := ty, pos := pos, after := after, guard := none } :: rest) σ ds I δ :=
  op_act rfl rfl (by intro c hc; cases hc) (fun a w he hs => by
    subst hys
    obtain ⟨l, r, hl1, hl2⟩ := hh.split
    have hb : w.heap[b]? = some (.map es clock) := hs.ents (.obj b (.map es clock)) (by rw [hl1]; simp)
    obtain ⟨j, e, g1, g2, rfl⟩ := hst
    have hfi : es.findIdx? (fun x => (x.born : Int) == (e.born : Int)) = some j := by
      have h1 := List.findIdx?_toArray (p := fun x : MapEntry => (x.born : Int) == (e.born : Int)) (l := es.toList)
      rw [Array.toArray_toList] at h1
      rw [h1]; exact find_stamp _ j e hmi.born g1
    have hset := MapKept.heap_set (o' := .map (es.modify j fun e => { e with val := v }) clock) hb
    have hp : mput xs k v = xs.set j (k, v) := by
      rcases find_mp es.toList xs k 0 hmi.kv with ⟨q1, q2, q3⟩ | ⟨j', v0, e', q1, q2, q3, q4, q5, q6⟩
      · exfalso
        rw [mget_none] at q1
        have : (Value.int .i64 k, e.val) ∈ xs.map (fun p => (Value.int .i64 p.1, p.2)) := by
          rw [← hmi.kv, ← g2]; exact List.mem_map_of_mem (f := fun e : MapEntry => (e.key, e.val)) (List.mem_of_getElem? g1)
        obtain ⟨p, hp, he2⟩ := List.mem_map.1 this
        simp only [Prod.mk.injEq, Value.int.injEq, true_and] at he2
        exact q1 (he2.1 ▸ List.mem_map_of_mem hp)
      · have : j' = j := by
          have e1 : (xs.map (·.1))[j']? = some k := by
            have := congrArg (fun l => l[j']?) hmi.kv
            simp only [List.getElem?_map, q3, Option.map_some] at this
            cases hx : xs[j']? with
            | none => simp [hx] at this
            | some p => simp [hx, q4] at this; simp [hx, this]
          have e2 : (xs.map (·.1))[j]? = some k := by
            have := congrArg (fun l => l[j]?) hmi.kv
            simp only [List.getElem?_map, g1, Option.map_some] at this
            cases hx : xs[j]? with
            | none => simp [hx] at this
            | some p => simp [hx, g2] at this; simp [hx, this]
          exact (List.getElem?_inj (List.getElem?_eq_some_iff.1 e1).1 hmi.keys).1 (e1.trans e2.symm)
        rw [q6 v, this]
    obtain ⟨s', t'⟩ := hs.swap (w' := { w with heap := w.heap.setIfInBounds b (.map (es.modify j fun e => { e with val := v }) clock) }) hh rfl rfl rfl (by simp) (fun c _ hc => hset.2 c (fun e => hc (by rw [e]; rfl))) ⟨_, _, hset.1, hmi.set g1 g2 _ ⟨g2, rfl, rfl⟩ hp⟩ (fun c hc => .inl hc)
    refine ⟨_, I, δ', ?_, s', t', kk⟩
    simp [execOp, he.ev hm, he.ev hx, he.ev hy, Instr.entryStore, asInt, asIntOf, MapKept.run_getObj_map hb, hfi, MapKept.run_setObj_map _ hb, Result.andThen])

/-! ### a range over a map that the rounds leave as it is -/
theorem leftOf_toList (es : Array MapEntry) (seen : Array Nat) : (leftOf es seen).toList = es.toList.filter fun e => !seen.contains e.born := by
  unfold leftOf; rw [Array.toList_filter]
/-- the entry that has just come -/
def Cur (es : Array MapEntry) (seen : Array Nat) (k : Int) (v : Value) : Prop := ∃ (s0 : Array Nat) (e : MapEntry), seen = s0.push e.born ∧ e ∈ es.toList ∧ e.key = .int .i64 k ∧ e.val = v

/-- What is still to come. -/
structure LeftM (es : Array MapEntry) (clock since : Nat) (seen : Array Nat) (c0 : Nat) (xs left : Mp) : Prop where
  is : MapIs es clock xs
  old : ∀ x ∈ es.toList, x.born < since
  sc : since ≤ c0
  sk : since ≤ clock
  kv : (leftOf es seen).toList.map (fun e => (e.key, e.val)) = left.map (fun p => (Value.int .i64 p.1, p.2))
  c0 : c0 = clock

/-- The map's record is laid open. -/
theorem OpsJ.openMap {b : Nat} {xs : Mp} {δ' : Array MapEntry → Nat → List Ent} (hh : ∀ es clock, Swap δ (.map b xs) (δ' es clock) (.obj b (.map es clock)))
    (k : ∀ es clock, MapIs es clock xs → OpsJ C ops Q rest σ ds I (δ' es clock)) : OpsJ C ops Q rest σ ds I δ := by
  intro a w he hs ht
  obtain ⟨l, r, hl1, hl2⟩ := (hh #[] 0).split
  obtain ⟨es, clock, hb, hmi⟩ := hs.ents (.map b xs) (by rw [hl1]; simp)
  obtain ⟨s', t'⟩ := hs.swap (w' := w) (hh es clock) rfl rfl rfl (Nat.le_refl _) (fun _ _ _ => rfl) hb (fun c hc => .inl hc)
  exact k es clock hmi a w he s' (ht.trans t')
theorem View.closeMap {b : Nat} {xs : Mp} {es : Array MapEntry} {clock : Nat} {δ' : List Ent} (hm : MapIs es clock xs) (hh : Swap δ (.obj b (.map es clock)) δ' (.map b xs)) : View I δ I δ' := fun w hs => by
  obtain ⟨l, r, hl1, hl2⟩ := hh.split
  have hb : w.heap[b]? = some (.map es clock) := hs.ents (.obj b (.map es clock)) (by rw [hl1]; simp)
  exact hs.swap (w' := w) hh rfl rfl rfl (Nat.le_refl _) (fun _ _ _ => rfl) ⟨es, clock, hb, hm⟩ (fun c hc => .inl hc)

theorem o_range {t kt e : TypeId} {x : Operand} {b : Nat} {es : Array MapEntry} {clock : Nat} {xs : Mp} (ht : C.P.underlying t = some (.map kt e)) (hx : evS σ x = some (.map (some b))) (hh : Has δ (.obj b (.map es clock))) (hmi : MapIs es clock xs) (hd : Nat.blt d C.n = true)
    (k : ∀ r, LeftM es clock clock #[] clock xs xs → OpsJ C ops Q rest ((d, .pointer (some ⟨r, 0, none⟩)) :: σ) ds I (.obj r (.mapIter (some b) clock #[] clock) :: δ)) :
    OpsJ C ops Q ({ dst := some d, op := .range t x, type := ty, pos := pos, after := after, guard := none } :: rest) σ ds I δ :=
  op_step rfl rfl hd (by intro c hc; cases hc) (fun a w he hs => by
    have hb : w.heap[b]? = some (.map es clock) := hs.ents (.obj b (.map es clock)) hh.mem
    obtain ⟨s', t'⟩ := hs.alloc (.obj w.heap.size (.mapIter (some b) clock #[] clock)) (.mapIter (some b) clock #[] clock) rfl (heap_alloc_new w _)
    refine ⟨_, _, _, _, ?_, s', t', k w.heap.size ⟨hmi, hmi.old, Nat.le_refl _, Nat.le_refl _, by
      have h : es.toList.filter (fun e => !(#[] : Array Nat).contains e.born) = es.toList := List.filter_eq_self.2 (by simp)
      rw [leftOf_toList, h, hmi.kv], rfl⟩⟩
    simp [execOp, he.ev hx, run_range_map w t kt e b es clock ht hb])


theorem filter_erase {es : List MapEntry} (hn : (es.map (·.born)).Nodup) {p : MapEntry → Bool} {e : MapEntry} (he : e ∈ es.filter p) :
    ∃ l r, es.filter p = l ++ e :: r ∧ es.filter (fun x => p x && !(x.born == e.born)) = l ++ r := by
  obtain ⟨l, r, h⟩ := List.append_of_mem he
  refine ⟨l, r, h, ?_⟩
  have h1 : es.filter (fun x => p x && !(x.born == e.born)) = (es.filter p).filter (fun x => !(x.born == e.born)) := by
    rw [List.filter_filter]; congr 1; funext x; rw [Bool.and_comm]
  have hn2 : ((es.filter p).map (·.born)).Nodup := hn.sublist ((List.filter_sublist (l := es)).map _)
  rw [h, List.map_append, List.map_cons, List.nodup_append] at hn2
  obtain ⟨n1, n2, n3⟩ := hn2
  rw [List.nodup_cons] at n2
  rw [h1, h, List.filter_append, List.filter_cons]
  simp only [beq_self_eq_true, Bool.not_true, Bool.false_eq_true, if_false]
  congr 1
  · refine List.filter_eq_self.2 fun x hx => ?_
    have := n3 x.born (List.mem_map_of_mem hx) e.born (by simp)
    simpa using this
  · refine List.filter_eq_self.2 fun x hx => ?_
    have : x.born ≠ e.born := fun e1 => n2.1 (e1 ▸ List.mem_map_of_mem hx)
    simpa using this

/-- The step: nothing is left, or some one comes. -/
theorem o_mnext {x : Operand} {b r : Nat} {es : Array MapEntry} {clock since c0 : Nat} {seen : Array Nat} {xs left : Mp} {δ' : Array Nat → List Ent} (hL : LeftM es clock since seen c0 xs left) (hx : evS σ x = some (.pointer (some ⟨r, 0, none⟩)))
    (hh : Has δ (.obj b (.map es clock))) (hs : ∀ seen', Swap δ (.obj r (.mapIter (some b) since seen c0)) (δ' seen') (.obj r (.mapIter (some b) since seen' c0))) (hd : Nat.blt d C.n = true)
    (k0 : left = [] → OpsJ C ops Q rest ((d, .tuple #[.bool false]) :: σ) ds I δ)
    (k1 : ∀ l k v q seen', left = l ++ (k, v) :: q → LeftM es clock since seen' c0 xs (l ++ q) → Cur es seen' k v → OpsJ C ops Q rest ((d, .tuple #[.bool true, .int .i64 k, v]) :: σ) ds I (δ' seen')) :
    OpsJ C ops Q ({ dst := some d, op := .next x false, type := ty, pos := pos, after := after, guard := none } :: rest) σ ds I δ :=
  op_step rfl rfl hd (by intro c hc; cases hc) (fun a w he hsat => by
    obtain ⟨l1, r1, hl1, hl2⟩ := (hs #[]).split
    have hr : w.heap[r]? = some (.mapIter (some b) since seen c0) := hsat.ents (.obj r (.mapIter (some b) since seen c0)) (by rw [hl1]; simp)
    have hb : w.heap[b]? = some (.map es clock) := hsat.ents (.obj b (.map es clock)) hh.mem
    rcases run_next_at (P := C.P) w ty r b since c0 seen es clock hr hb hL.old hL.sc with ⟨h0, hrun⟩ | ⟨e, hem, w1, hw1, hrun⟩
    · have hle : left = [] := by
        have := congrArg List.length hL.kv
        simp only [List.length_map, Array.length_toList] at this
        exact List.eq_nil_of_length_eq_zero (by omega)
      exact ⟨_, w, I, δ, by simp [execOp, he.ev hx, hrun], hsat, Tr.refl _ _ _, k0 hle⟩
    · have hr1 : w1.heap[r]? = some (.mapIter (some b) since seen c0) := by rcases hw1 with rfl | rfl <;> exact hr
      have hset := MapKept.heap_set (o' := .mapIter (some b) since (seen.push e.born) clock) hr1
      have hsame : w1.heap = w.heap ∧ w1.os = w.os ∧ w1.tape = w.tape ∧ w1.output = w.output := by rcases hw1 with rfl | rfl <;> exact ⟨rfl, rfl, rfl, rfl⟩
      have hcc := hL.c0
      subst hcc
      obtain ⟨s', t'⟩ := hsat.swap (w' := ChangeMaps.setBlock w1 r (.mapIter (some b) since (seen.push e.born) c0)) (hs (seen.push e.born)) (by simp [ChangeMaps.setBlock, hsame]) (by simp [ChangeMaps.setBlock, hsame]) (by simp [ChangeMaps.setBlock, hsame]) (by simp [ChangeMaps.setBlock, hsame])
        (fun c _ hc => (hset.2 c (fun e => hc (by rw [e]; rfl))).trans (by rw [hsame.1])) hset.1 (fun c hc => .inl hc)
      have hem2 := hem
      rw [leftOf_toList] at hem2
      obtain ⟨q1, q2, hq1, hq2⟩ := filter_erase hL.is.born hem2
      have hkv := hL.kv
      rw [leftOf_toList, hq1, List.map_append, List.map_cons] at hkv
      obtain ⟨m1, m2, rfl, hm1, hm2⟩ := List.map_eq_append_iff.1 hkv.symm
      cases m2 with
      | nil => simp at hm2
      | cons p m2 =>
        obtain ⟨k, v⟩ := p
        simp only [List.map_cons, List.cons.injEq, Prod.mk.injEq] at hm2
        obtain ⟨⟨hk, hv⟩, hm2⟩ := hm2
        have hin : e ∈ es.toList := (List.mem_filter.1 hem2).1
        refine ⟨_, _, I, _, ?_, s', t', k1 m1 k v m2 (seen.push e.born) rfl ⟨hL.is, hL.old, hL.sc, hL.sk, ?_, rfl⟩ ⟨seen, e, rfl, hin, hk.symm, hv.symm⟩⟩
        · simp [execOp, he.ev hx, hrun, hk, hv]
        · rw [leftOf_toList]
          have : (fun x : MapEntry => !(seen.push e.born).contains x.born) = fun x => (!seen.contains x.born) && !(x.born == e.born) := by
            funext x; rw [contains_push]; cases seen.contains x.born <;> rfl
          rw [this, hq2, List.map_append, List.map_append, hm1, hm2])

theorem o_mnext0 {x : Operand} {b r : Nat} {es : Array MapEntry} {clock since c0 : Nat} {seen : Array Nat} {xs left : Mp} {δ' : Array Nat → List Ent} (hl : left = []) (hL : LeftM es clock since seen c0 xs left) (hx : evS σ x = some (.pointer (some ⟨r, 0, none⟩)))
    (hh : Has δ (.obj b (.map es clock))) (hs : ∀ seen', Swap δ (.obj r (.mapIter (some b) since seen c0)) (δ' seen') (.obj r (.mapIter (some b) since seen' c0))) (hd : Nat.blt d C.n = true)
    (k0 : OpsJ C ops Q rest ((d, .tuple #[.bool false]) :: σ) ds I δ) :
    OpsJ C ops Q ({ dst := some d, op := .next x false, type := ty, pos := pos, after := after, guard := none } :: rest) σ ds I δ :=
  o_mnext hL hx hh hs hd (fun _ => k0) (fun l k v q _ h => by rw [hl] at h; simp at h)
theorem o_mnext1 {x : Operand} {b r : Nat} {es : Array MapEntry} {clock since c0 : Nat} {seen : Array Nat} {xs left : Mp} {δ' : Array Nat → List Ent} (hl : left ≠ []) (hL : LeftM es clock since seen c0 xs left) (hx : evS σ x = some (.pointer (some ⟨r, 0, none⟩)))
    (hh : Has δ (.obj b (.map es clock))) (hs : ∀ seen', Swap δ (.obj r (.mapIter (some b) since seen c0)) (δ' seen') (.obj r (.mapIter (some b) since seen' c0))) (hd : Nat.blt d C.n = true)
    (k1 : ∀ l k v q seen', left = l ++ (k, v) :: q → LeftM es clock since seen' c0 xs (l ++ q) → Cur es seen' k v → OpsJ C ops Q rest ((d, .tuple #[.bool true, .int .i64 k, v]) :: σ) ds I (δ' seen')) :
    OpsJ C ops Q ({ dst := some d, op := .next x false, type := ty, pos := pos, after := after, guard := none } :: rest) σ ds I δ :=
  o_mnext hL hx hh hs hd (fun h => absurd h hl) k1
/-- The entry that has come. -/
theorem v_entry {x : Operand} {b r : Nat} {es : Array MapEntry} {clock since c0 : Nat} {seen : Array Nat} {xs left : Mp} {k : Int} {v : Value} (hL : LeftM es clock since seen c0 xs left) (hx : evS σ x = some (.pointer (some ⟨r, 0, none⟩)))
    (hl : Cur es seen k v) (hh : Has δ (.obj b (.map es clock))) (hh2 : Has δ (.obj r (.mapIter (some b) since seen c0))) : ValJ C σ ds I δ (.entry x) (.tuple #[.int .i64 k, v]) :=
  fun _ _ _ _ _ a w he hs => by
    obtain ⟨s0, e, rfl, he1, hk, rfl⟩ := hl
    have hb : w.heap[b]? = some (.map es clock) := hs.ents _ hh.mem
    have hr : w.heap[r]? = some (.mapIter (some b) since (s0.push e.born) c0) := hs.ents _ hh2.mem
    have hcc := hL.c0
    subst hcc
    simp [execOp, he.ev hx, run_entry_at w r b since s0 es _ e hr hb he1 hL.is.born, hk]

/-! ### a store into a row of one's own -/
theorem o_storeRow {t e : TypeId} {x y : Operand} {A : Option Addr} {m c size n off q : Nat} {agg : Bool} {xs vs xs' : List Value} {v : Value} {δ' : List Ent} (ht : Ty C.P t agg q) (hx : evS σ x = some (pa A off)) (hy : evS σ y = some v) (hA : A.isSome = true)
    (hv : cellsL v = vs) (hvn : Nat.beq vs.length q = true) (h1 : vs.all (·.oneCell') = true) (hne : vs ≠ []) (hh : Swap δ (.row (.slice A m c) e size n xs) δ' (.row (.slice A m c) e size n xs')) (hst : stL xs off vs = some xs') (k : OpsJ C ops Q rest σ ds I δ') :
    OpsJ C ops Q ({ dst := none, op := .store t x y, type := ty, pos := pos, after := after, guard := none } :: rest) σ ds I δ :=
  op_act rfl rfl (by intro c hc; cases hc) (fun a w he hs => by
    obtain ⟨l, r, hl1, hl2⟩ := hh.split
    obtain ⟨a0, rfl⟩ := Option.isSome_iff_exists.1 hA
    have hrow : w.ownsRow 0 e size (.slice (some a0) m c) n xs := hs.ents (.row (.slice (some a0) m c) e size n xs) (by rw [hl1]; simp)
    obtain ⟨hlen, hr⟩ := hrow
    rcases hr with ⟨hr, _⟩ | ⟨g, cap, cur, hr, hbase, hw, hnc, hcm, hcs, htk⟩
    · cases hr
    injection hr with e1 e2 e3
    injection e1 with e1
    subst e1; subst e2; subst e3
    have hw' : w.heap[g]? = some (.cells cur.toList.toArray e (0, 0)) := by simpa using hw
    obtain ⟨_, h3, h4, h5⟩ := stL_spec _ _ _ _ hst
    have hle := h4 hne
    have hxl : xs.length ≤ cur.toList.length := by rw [← htk, List.length_take]; omega
    have hn : vs.length = q := Nat.eq_of_beq_eq_true hvn
    have hsz : (sizeOf t).run C.P w = .ok q w := by
      have h := ht.size
      cases hq : C.P.info? t with
      | none => simp [hq] at h
      | some i => simp [hq] at h; simp [sizeOf, typeInfo, program, Sem.run, hq, h]
    subst hn
    have hall : ∀ u ∈ vs, u.oneCell' = true := by simpa using h1
    obtain ⟨w', hrun, g1, g2, g3, g4, g5, cs2, g6, g7, g8⟩ := run_storeCells (P := C.P) vs off 0 cur.toList w hw' (by omega) hall
    have hnew : (Ent.row (.slice (some ⟨g, 0, none⟩) m c) e size m xs').holds w' := by
      refine ⟨by rw [h3]; exact hlen, .inr ⟨g, c, cs2.toArray, rfl, hbase, g6, hnc, hcm, by simp [g7, hcs], ?_⟩⟩
      apply List.ext_getElem?
      intro j
      rw [h5 j, List.getElem?_take]
      by_cases hj : j < m * size
      · rw [if_pos hj]
        simp only [Nat.add_zero] at g8
        rw [show (cs2.toArray.toList)[j]? = cs2[j]? from rfl, g8 j]
        split
        · rfl
        · rw [← htk, List.getElem?_take, if_pos hj]
      · rw [if_neg hj]
        have : ¬ (off ≤ j ∧ j < off + vs.length) := by omega
        rw [if_neg this]
        symm
        rw [List.getElem?_eq_none_iff]; omega
    obtain ⟨s', t'⟩ := hs.swap hh g1 g2 g3 (by omega) (fun k _ hk => g5 k (fun e => hk (by rw [e]; rfl))) hnew (fun k hk => .inl hk)
    refine ⟨w', I, δ', ?_, s', t', k⟩
    have hadd : (⟨g, 0, none⟩ : Addr).add off = ⟨g, off, none⟩ := by rw [add_plain]; simp
    simp [execOp, he.ev hx, he.ev hy, pa, hadd, Instr.storeAt, Instr.sureAddr, storeVar, hsz, cellsL_cells, hv, hrun])
end Go.Proofs.Ythbcdffldcdfoaa.Lg
