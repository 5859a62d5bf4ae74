/- The rules of the logic for rows of one's own that are cut, cleared and laid out ahead. No condition. -/
import Derived.Test.YthbcdffldcdfoaaLgg
set_option linter.unusedVariables false
set_option linter.unusedSimpArgs false
namespace Go.Proofs.Ythbcdffldcdfoaa.Lg
open Go Go.RowKit

variable {C : Ctx} {Q : Exit → Act → World → Prop} {σ : Env} {ds : List Nat} {I : Imm} {δ : List Ent} {ops : Array Oper} {rest : List Oper}
variable {d : Nat} {ty : TypeId} {pos : String} {after : Array Edge}

theorem v_cap {t e : TypeId} {x : Operand} {ad : Option Addr} {n c : Nat} (ht : C.P.underlying t = some (.slice e)) (hx : evS σ x = some (.slice ad n c)) :
    ValJ C σ ds I δ (.call { callee := .builtin .cap, args := #[x], argTypes := #[t] }) (.int .i64 c) :=
  fun _ _ _ _ _ a w he _ => by
    have hu : (underlying t).run C.P w = .ok (.slice e) w := by simp [underlying, program, Sem.run, ht]
    simp [execOp, resolve, invoke, builtin, Builtin.cap_, he.ev hx, hu, goInt]
theorem v_slice3 {t e : TypeId} {x y z u : Operand} {ad : Option Addr} {n c l h m size : Nat} (ht : C.P.underlying t = some (.slice e)) (hsz : (C.P.info? e).map (·.size) = some size)
    (hx : evS σ x = some (.slice ad n c)) (hy : evS σ y = some (.int .i64 (l : Int))) (hz : evS σ z = some (.int .i64 (h : Int))) (hu' : evS σ u = some (.int .i64 (m : Int))) (h1 : l ≤ h) (h2 : h ≤ m) (h3 : m ≤ c) :
    ValJ C σ ds I δ (.slice t x (some y) (some z) (some u)) (.slice (cutAt ad m l size) (h - l) (m - l)) :=
  fun _ _ _ _ _ a w he _ => by
    have hu : (underlying t).run C.P w = .ok (.slice e) w := by simp [underlying, program, Sem.run, ht]
    cases hq : C.P.info? e with
    | none => simp [hq] at hsz
    | some inf =>
      simp [hq] at hsz
      simp [execOp, he.ev hx, he.ev hy, he.ev hz, he.ev hu', Instr.sliceAt, Instr.slice, Instr.sliceBounds, Instr.sliceBound, asIntOf, hu, sizeOf, typeInfo, program, Sem.run, hq, hsz, h1, h2, h3, cutAt]
theorem v_slice2 {t e : TypeId} {x y z : Operand} {ad : Option Addr} {n c l h size : Nat} (ht : C.P.underlying t = some (.slice e)) (hsz : (C.P.info? e).map (·.size) = some size)
    (hx : evS σ x = some (.slice ad n c)) (hy : evS σ y = some (.int .i64 (l : Int))) (hz : evS σ z = some (.int .i64 (h : Int))) (h1 : l ≤ h) (h2 : h ≤ c) :
    ValJ C σ ds I δ (.slice t x (some y) (some z) none) (.slice (cutAt ad c l size) (h - l) (c - l)) :=
  fun _ _ _ _ _ a w he _ => by
    have hu : (underlying t).run C.P w = .ok (.slice e) w := by simp [underlying, program, Sem.run, ht]
    cases hq : C.P.info? e with
    | none => simp [hq] at hsz
    | some inf =>
      simp [hq] at hsz
      simp [execOp, he.ev hx, he.ev hy, he.ev hz, Instr.sliceAt, Instr.slice, Instr.sliceBounds, Instr.sliceBound, asIntOf, hu, sizeOf, typeInfo, program, Sem.run, hq, hsz, h1, h2, cutAt]

theorem row_short {w : World} {e : TypeId} {size n h c : Nat} {A : Option Addr} {xs : List Value} (hrow : w.ownsRow 0 e size (.slice A n c) n xs) (hh : h ≤ n) : w.ownsRow 0 e size (.slice A h c) h (xs.take (h * size)) := by
  obtain ⟨hl, hx⟩ := hrow
  have hle : h * size ≤ n * size := Nat.mul_le_mul_right _ hh
  refine ⟨by rw [List.length_take, hl]; omega, ?_⟩
  rcases hx with ⟨he, hn⟩ | ⟨g, cap, cur, he, h1, h2, h3, h4, h5, h6⟩
  · cases he
    exact .inl ⟨by have : h = 0 := by omega
                   rw [this], by omega⟩
  · cases he
    exact .inr ⟨g, c, cur, rfl, h1, h2, by omega, h4, h5, by rw [← h6, List.take_take, Nat.min_eq_left hle]⟩

theorem append_inplace {P : Program} {t ty e : TypeId} {size : Nat} (ht : P.underlying t = some (.slice e)) (hsz : (P.info? e).map (·.size) = some size) {A B : Option Addr} {i c m c2 : Nat} (hle : i + m ≤ c) {w w' : World} {v' : Value}
    (hr : (Builtin.append_ #[t, t] ty #[.slice A i c, .slice B m c2]).run P w = .ok v' w') : v' = .slice A (i + m) c := by
  have hu : (underlying t).run P w = .ok (.slice e) w := by simp [underlying, program, Sem.run, ht]
  cases hq : P.info? e with
  | none => simp [hq] at hsz
  | some inf =>
    have hs : (sizeOf e).run P w = .ok inf.size w := by simp [sizeOf, typeInfo, program, Sem.run, hq]
    simp [Builtin.append_, hu, hs, Builtin.lenOf, hle] at hr
    cases hf : (Builtin.firstCells inf.size m (.slice B m c2)).run P w with
    | halt x w1 => simp [hf] at hr
    | ok new w1 =>
      simp [hf] at hr
      cases A with
      | none => simp at hr; exact hr.1.symm
      | some a =>
        simp at hr
        cases hst : (storeCells (a.add (i * inf.size)) new.toList).run P w1 with
        | halt x w2 => simp [hst] at hr
        | ok u w2 => simp [hst] at hr; exact hr.1.symm

/-- the front of a row, and what stands behind some place of it, in the same row -/
theorem o_appendSelf {t e : TypeId} {z : Value} {size bytes n i j m c c2 : Nat} {s x : Operand} {A : Option Addr} {xs : List Value} {G : List Ent} (ht : C.P.underlying t = some (.slice e)) (hb : (C.P.info? e).map (fun i => (i.zero, i.size, i.bytes)) = some (some z, size, bytes))
    (hs : evS σ s = some (.slice A i c)) (hx : evS σ x = some (.slice (cutAt A c j size) m c2)) (hd : Nat.blt d C.n = true) (hsw : Swap δ (.row (.slice A n c) e size n xs) G (.row (.slice A (i + m) c) e size (i + m) (xs.take (i * size) ++ (xs.drop (j * size)).take (m * size))))
    (hij : i ≤ j) (hjm : j + m ≤ n) (hnc : n ≤ c) (h1 : ∀ u ∈ xs, u.oneCell' = true) (hbd : n ≤ 4398046511104) (hby : n * bytes ≤ 140737488355328) (hA : A.isSome = true)
    (k : OpsJ C ops Q rest ((d, .slice A (i + m) c) :: σ) ds I G) (hz : z.cells.size = size := by rfl) (hsz : Nat.blt 0 size = true := by rfl) :
    OpsJ C ops Q ({ dst := some d, op := .call { callee := .builtin .append, args := #[s, x], argTypes := #[t, t] }, type := ty, pos := pos, after := after, guard := none } :: rest) σ ds I δ :=
  op_step rfl rfl hd (by intro c hc; cases hc) (fun a w he hsat => by
    have hsz' : 0 < size := by simpa [Nat.blt_eq] using hsz
    obtain ⟨l, r, hl1, _⟩ := hsw.split
    have hown : w.ownsRow 0 e size (.slice A n c) n xs := hsat.ents (.row (.slice A n c) e size n xs) (by rw [hl1]; simp)
    obtain ⟨a0, rfl⟩ := Option.isSome_iff_exists.1 hA
    obtain ⟨g, rfl⟩ : ∃ g, a0 = ⟨g, 0, none⟩ := by
      rcases hown.2 with ⟨he, _⟩ | ⟨g, cap, cur, he, _⟩
      · cases he
      · exact ⟨g, by injection he with he; injection he⟩
    have hshort := row_short hown (show i ≤ n by omega)
    obtain ⟨B, hB⟩ : ∃ B : Addr, cutAt (some ⟨g, 0, none⟩) c j size = some B := Option.isSome_iff_exists.1 (cutAt_isSome rfl)
    rw [hB] at hx
    have hxl := hown.1
    have hnl : ((xs.drop (j * size)).take (m * size)).length = m * size := by
      have : j * size + m * size ≤ n * size := by rw [← Nat.add_mul]; exact Nat.mul_le_mul_right _ hjm
      rw [List.length_take, List.length_drop]; omega
    have hread : ∀ q u, ((xs.drop (j * size)).take (m * size))[q]? = some u → w.cell? (B.add q) = some u := fun q u hq => by
      have hqm : q < m * size := by have := (List.getElem?_eq_some_iff.1 hq).1; omega
      have hm : 0 < m := by rcases Nat.eq_zero_or_pos m with h | h; (subst h; simp at hqm); exact h
      have hcj : ¬ c = j := by omega
      unfold cutAt at hB
      rw [if_neg hcj] at hB
      simp only [Option.map_some, Option.some.injEq] at hB
      subst hB
      rw [List.getElem?_take_of_lt hqm, List.getElem?_drop] at hq
      have h2 := hown.cells (g := g) rfl (j * size + q) u hq
      rw [add_add]; exact h2
    cases hq : C.P.info? e with
    | none => simp [hq] at hb
    | some inf =>
      simp [hq] at hb
      obtain ⟨hb1, hb2, hb3⟩ := hb
      have hbi : (i + m) * bytes ≤ n * bytes := Nat.mul_le_mul_right _ (by omega)
      obtain ⟨v', w', hr, hown', hg, _, hat⟩ := run_append_own_at (P := C.P) (w := w) 0 t ty e inf z size bytes ht hq hb1 hb2 hb3 hz hsz' _ i _ hshort B m c2 _ hnl hread (fun u hu => h1 u (List.mem_of_mem_drop (List.mem_of_mem_take hu))) (by simp only [maxLen]; omega) (by omega) (Nat.zero_le _)
      have hv' := append_inplace (size := size) ht (by rw [hq]; simp [hb2]) (show i + m ≤ c by omega) hr
      subst hv'
      obtain ⟨s', t'⟩ := hsat.swap hsw hg.os hg.tape hg.output hg.size (fun b hlt hne => hg.block b hlt (fun e => hne (show (some g : Option Nat) = some b from e.symm))) hown' (fun b hb => .inl hb)
      refine ⟨_, w', I, G, ?_, s', t', k⟩
      simp [execOp, resolve, invoke, builtin, he.ev hs, he.ev hx, hr])

/-- a step on the heap whose value nobody takes -/
theorem op_actv {o : Oper} (hg : o.guard = none) (hdst : o.dst = none) (hnd : ∀ c, o.op ≠ .defer c)
    (hrun : ∀ a w, EnvOK C.n σ ds a → Sat w I δ → ∃ v w' I' δ', (execOp a.eval o).run C.P w = .ok (.value v) w' ∧ Sat w' I' δ' ∧ Tr w I δ w' I' δ' ∧ OpsJ C ops Q rest σ ds I' δ') : OpsJ C ops Q (o :: rest) σ ds I δ := by
  intro a w he hs ht
  obtain ⟨v, w', I', δ', hr, s', t', k⟩ := hrun a w he hs
  refine wpListIn_plain hg fun K hK => ?_
  unfold Oper.wpIn
  refine ⟨fun _ _ => trivial, ?_⟩
  rw [semAt_eq _ _ _ hnd, hr, Oper.uponIn_value]
  refine hK _ _ ?_
  exact k _ _ (he.put' hdst _) s' (ht.trans t')

theorem has_swap {δ : List Ent} {x : Ent} (h : Has δ x) : Swap δ x δ x := by
  induction h with
  | here => exact Swap.here
  | there _ ih => exact Swap.there ih
/-- what stands behind a row, as far as there is room, is cleared -/
theorem o_clear {t e : TypeId} {z : Value} {size n m c c2 : Nat} {x : Operand} {A : Option Addr} {xs : List Value} (ht : C.P.underlying t = some (.slice e)) (hb : (C.P.info? e).map (fun i => (i.zero, i.size)) = some (some z, size)) (hz1 : z.cells.toList.all (·.oneCell') = true) (hzs : Nat.beq z.cells.size size = true)
    (hx : evS σ x = some (.slice (cutAt A c n size) m c2)) (hh : Has δ (.row (.slice A n c) e size n xs)) (hm : n + m ≤ c)
    (k : OpsJ C ops Q rest σ ds I δ) :
    OpsJ C ops Q ({ dst := none, op := .call { callee := .builtin .clear, args := #[x], argTypes := #[t] }, type := ty, pos := pos, after := after, guard := none } :: rest) σ ds I δ :=
  op_actv rfl rfl (by intro c hc; cases hc) (fun a w he hsat => by
    have hown : w.ownsRow 0 e size (.slice A n c) n xs := hsat.ents _ hh.mem
    have hu : (underlying t).run C.P w = .ok (.slice e) w := by simp [underlying, program, Sem.run, ht]
    have hzs' : z.cells.size = size := Nat.eq_of_beq_eq_true hzs
    rcases Nat.eq_zero_or_pos m with hm0 | hm0
    · subst hm0
      refine ⟨.tuple #[], w, I, δ, ?_, hsat, Tr.refl _ _ _, k⟩
      cases hq : cutAt A c n size <;> simp [execOp, resolve, invoke, builtin, Builtin.clear_, he.ev hx, hu, hq]
    · obtain ⟨hlen, hr⟩ := hown
      rcases hr with ⟨hr, hn0⟩ | ⟨g, cap, cur, hr, hbase, hw, hnc, hcm, hcs, htk⟩
      · cases hr; omega
      injection hr with e1 e2 e3
      subst e1; subst e3
      have hcn : ¬ c = n := by omega
      have hcut : cutAt (some ⟨g, 0, none⟩) c n size = some ⟨g, n * size, none⟩ := by
        unfold cutAt; rw [if_neg hcn]
        have hadd : (⟨g, 0, none⟩ : Addr).add (n * size) = ⟨g, n * size, none⟩ := by rw [add_plain]; simp
        simp [hadd]
      rw [hcut] at hx
      have hw' : w.heap[g]? = some (.cells cur.toList.toArray e (0, 0)) := by simpa using hw
      have hzl : (Builtin.zeroCells z.cells m).toList.length = m * size := by simp [Builtin.zeroCells, hzs']
      have hfit : n * size + m * size ≤ c * size := by rw [← Nat.add_mul]; exact Nat.mul_le_mul_right _ hm
      have hone : ∀ u ∈ (Builtin.zeroCells z.cells m).toList, u.oneCell' = true := fun u hu => by
        simp only [Builtin.zeroCells, Array.toList_map, List.mem_map] at hu
        obtain ⟨i, hi, rfl⟩ := hu
        have hlt : i % z.cells.size < z.cells.size := by
          apply Nat.mod_lt
          simp at hi
          rcases Nat.eq_zero_or_pos z.cells.size with h | h
          · rw [h] at hi; simp at hi
          · exact h
        have hz2 : ∀ u ∈ z.cells.toList, u.oneCell' = true := fun u hu => List.all_eq_true.1 hz1 u hu
        rw [getElem!_pos z.cells _ hlt]
        exact hz2 _ (by simp)
      obtain ⟨w', hrun, g1, g2, g3, g4, g5, cs2, g6, g7, g8⟩ := run_storeCells (P := C.P) (Builtin.zeroCells z.cells m).toList (n * size) 0 cur.toList w hw' (by rw [hzl]; simp [hcs]; omega) hone
      have hnew : (Ent.row (.slice (some ⟨g, 0, none⟩) n c) e size n xs).holds w' := by
        refine ⟨hlen, .inr ⟨g, c, cs2.toArray, rfl, hbase, g6, hnc, hcm, by simp [g7, hcs], ?_⟩⟩
        rw [← htk]
        apply List.ext_getElem?
        intro q
        rw [List.getElem?_take, List.getElem?_take]
        by_cases hqn : q < n * size
        · rw [if_pos hqn, if_pos hqn]
          rw [show (cs2.toArray.toList)[q]? = cs2[q]? from rfl, g8 q, if_neg (by omega)]
        · rw [if_neg hqn, if_neg hqn]
      obtain ⟨s', t'⟩ := hsat.swap (has_swap hh) g1 g2 g3 (by omega) (fun k _ hk => g5 k (fun e => hk (by rw [e]; rfl))) hnew (fun k hk => .inl hk)
      refine ⟨.tuple #[], w', I, δ, ?_, s', t', k⟩
      have hz : (C.P.info? e).map (·.zero) = some (some z) := by
        cases hq : C.P.info? e with
        | none => simp [hq] at hb
        | some inf => simp [hq] at hb; simp [hb.1]
      obtain ⟨m', rfl⟩ : ∃ m', m = m' + 1 := ⟨m - 1, by omega⟩
      simp [execOp, resolve, invoke, builtin, Builtin.clear_, he.ev hx, hu, run_zero hz, hrun])

/-- so many nothings behind nil -/
theorem o_appendMake {t tn e : TypeId} {kn : IntKind} {z : Value} {size bytes n : Nat} {s x : Operand} (ht : C.P.underlying t = some (.slice e)) (htn : C.P.underlying tn = some (.int kn)) (hb : (C.P.info? e).map (fun i => (i.zero, i.size, i.bytes)) = some (some z, size, bytes)) (hzs : Nat.beq z.cells.size size = true)
    (hs : evS σ s = some (.slice none 0 0)) (hx : evS σ x = some (.int .i64 (n : Int))) (hd : Nat.blt d C.n = true) (hn : 0 < n) (hbd : n ≤ 4398046511104) (hby : n * bytes ≤ 140737488355328) (hbp : 0 < bytes) (hsz : 0 < size)
    (k : ∀ g c, n ≤ c → OpsJ C ops Q rest ((d, .slice (some ⟨g, 0, none⟩) n c) :: σ) ds I (.row (.slice (some ⟨g, 0, none⟩) 0 c) e size 0 [] :: δ)) :
    OpsJ C ops Q ({ dst := some d, op := .call { callee := .builtin .append, args := #[s, x], argTypes := #[t, tn] }, type := ty, pos := pos, after := after, guard := none } :: rest) σ ds I δ :=
  op_step rfl rfl hd (by intro c hc; cases hc) (fun a w he hsat => by
    cases hq : C.P.info? e with
    | none => simp [hq] at hb
    | some inf =>
      simp [hq] at hb
      obtain ⟨hb1, hb2, hb3⟩ := hb
      have hzs' : z.cells.size = size := Nat.eq_of_beq_eq_true hzs
      have hn0 : n ≠ 0 := by omega
      have hnn : ¬ ((n : Int) < 0) := by omega
      have hw : IntKind.i64.wrap (n : Int) = n := wrap_id (by omega)
      have h63' : ¬ (9223372036854775807 < (n : Int)) := by omega
      have hby2 : ¬ (281474976710656 < (n : Int) * (inf.bytes : Int)) := by rw [hb3]; have : ((n * bytes : Nat) : Int) = (n : Int) * (bytes : Int) := Int.natCast_mul _ _; omega
      have h48' : ¬ (281474976710656 < Builtin.nextslicecap n 0 * inf.bytes) := by rw [nextslicecap_zero hn, hb3]; omega
      have hs0 : ¬ (n * inf.size = 0) := by rw [hb2]; exact Nat.ne_of_gt (Nat.mul_pos hn hsz)
      have hr : (Builtin.append_ #[t, tn] ty #[.slice none 0 0, .int .i64 (n : Int)]).run C.P w =
          .ok (.slice (some ⟨w.heap.size, 0, none⟩) n (grownCap w n 0 e)) (w.drew.alloc (.cells (Builtin.zeroCells z.cells n ++ Builtin.zeroCells z.cells (grownCap w n 0 e - n)) e)) := by
        simp [Builtin.append_, run_underlying ht, run_underlying htn, sizeOf, typeInfo, zeroValue, hq, hb1, asInt, asIntOf, hw, hnn, hby2, hn0, h63', h48', Question.forced, newRow, grownCap, hs0, run_firstCells_none]
      have hge := grownCap_ge w n 0 e
      have hcm : grownCap w n 0 e ≤ maxLen := grownCap_le_maxLen w n 0 e (by simp only [maxLen]; omega)
      obtain ⟨s0, t0⟩ := hsat.drew
      have hnew : (Ent.row (.slice (some ⟨w.heap.size, 0, none⟩) 0 (grownCap w n 0 e)) e size 0 []).holds (w.drew.alloc (.cells (Builtin.zeroCells z.cells n ++ Builtin.zeroCells z.cells (grownCap w n 0 e - n)) e)) := by
        refine ⟨by simp, .inr ⟨w.heap.size, _, _, rfl, Nat.zero_le _, heap_alloc_new w.drew _, Nat.zero_le _, hcm, ?_, by simp⟩⟩
        simp only [Array.size_append, size_zeroCells, hzs', ← Nat.add_mul]
        congr 1; omega
      obtain ⟨s', t'⟩ := s0.alloc (.row (.slice (some ⟨w.heap.size, 0, none⟩) 0 (grownCap w n 0 e)) e size 0 []) _ rfl hnew
      refine ⟨_, _, _, _, ?_, s', t0.trans t', k w.heap.size (grownCap w n 0 e) hge⟩
      simp [execOp, resolve, invoke, builtin, he.ev hs, he.ev hx, hr])
end Go.Proofs.Ythbcdffldcdfoaa.Lg
