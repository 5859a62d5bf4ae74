/- The rules of the logic: a row that is made. No condition. -/
import Derived.Test.YthbcdffldcdfoaaLgh
import Derived.Laws.MakeOwn
set_option linter.unusedVariables false
set_option linter.unusedSimpArgs false
namespace Go.Proofs.Ythbcdffldcdfoaa.Lg
open Go Go.RowKit

variable {C : Ctx} {Q : Exit → Act → World → Prop} {σ : Env} {ds : List Nat} {I : Imm} {δ : List Ent} {ops : Array Oper} {rest : List Oper}
variable {d : Nat} {ty : TypeId} {pos : String} {after : Array Edge}

theorem madeCells_one (v : Value) (n : Nat) : (madeCells #[v] n).toList = List.replicate n v := by
  apply List.ext_getElem
  · simp [size_madeCells]
  · intro i h1 h2
    simp [madeCells, Nat.mod_one]
/-- a row of nothings, of one's own -/
theorem o_makeSlice {t e : TypeId} {z : Value} {size bytes n : Nat} {x y : Operand} {xs : List Value} (ht : C.P.underlying t = some (.slice e)) (hb : (C.P.info? e).map (fun i => (i.zero, i.size, i.bytes)) = some (some z, size, bytes))
    (hx : evS σ x = some (.int .i64 (n : Int))) (hy : evS σ y = some (.int .i64 (n : Int))) (hd : Nat.blt d C.n = true) (hbd : n ≤ 4398046511104) (hby : bytes * n ≤ 281474976710656)
    (hxs : (madeCells z.cells (n * size)).toList = xs)
    (k : ∀ g, OpsJ C ops Q rest ((d, .slice (some ⟨g, 0, none⟩) n n) :: σ) ds I (.row (.slice (some ⟨g, 0, none⟩) n n) e size n xs :: δ)) :
    OpsJ C ops Q ({ dst := some d, op := .makeSlice t x y, type := ty, pos := pos, after := after, guard := none } :: rest) σ ds I δ :=
  op_step rfl rfl hd (by intro c hc; cases hc) (fun a w he hsat => by
    subst hxs
    cases hq : C.P.info? e with
    | none => simp [hq] at hb
    | some inf =>
      simp [hq] at hb
      obtain ⟨hb1, hb2, hb3⟩ := hb
      subst hb2
      have hmax : n ≤ maxLen := by simp only [maxLen]; omega
      have hr := run_make (P := C.P) w t e inf z ht hq hb1 .i64 .i64 n n (by omega) (Int.le_refl _) (by rw [hb3]; have : ((bytes * n : Nat) : Int) = (bytes : Int) * (n : Int) := Int.natCast_mul _ _; omega) (by omega)
      simp only [Int.toNat_natCast] at hr
      have hnew : (Ent.row (.slice (some ⟨w.heap.size, 0, none⟩) n n) e inf.size n (madeCells z.cells (n * inf.size)).toList).holds (w.alloc (.cells (madeCells z.cells (n * inf.size)) e)) := by
        refine ⟨by simp [size_madeCells], .inr ⟨w.heap.size, n, _, rfl, Nat.zero_le _, heap_alloc_new w _, Nat.le_refl _, hmax, size_madeCells _ _, List.take_of_length_le (by rw [Array.length_toList, size_madeCells]; exact Nat.le_refl _)⟩⟩
      obtain ⟨s', t'⟩ := hsat.alloc (.row (.slice (some ⟨w.heap.size, 0, none⟩) n n) e inf.size n (madeCells z.cells (n * inf.size)).toList) _ rfl hnew
      refine ⟨_, _, _, _, ?_, s', t', k w.heap.size⟩
      simp [execOp, he.ev hx, he.ev hy, hr])
/-- the first six to eight of a list, as one value -/
def ld6 : Nat → List Value → Option Value
  | 6, a :: b :: c :: e :: f :: g :: _ => some (.agg #[a, b, c, e, f, g])
  | 7, a :: b :: c :: e :: f :: g :: h :: _ => some (.agg #[a, b, c, e, f, g, h])
  | 8, a :: b :: c :: e :: f :: g :: h :: i :: _ => some (.agg #[a, b, c, e, f, g, h, i])
  | _, _ => none
theorem ld6_spec {n : Nat} {cs : List Value} {v : Value} (h : ld6 n cs = some v) :
    ∃ us : List Value, us.length = n ∧ v = pack true us ∧ ∀ (j : Nat) (u : Value), us[j]? = some u → cs[j]? = some u := by
  unfold ld6 at h
  split at h <;> simp at h
  all_goals subst h
  · rename_i a b c e f g r; exact ⟨[a, b, c, e, f, g], rfl, rfl, fun j u hj => by rcases j with _ | _ | _ | _ | _ | _ | j <;> simp_all⟩
  · rename_i a b c e f g h r; exact ⟨[a, b, c, e, f, g, h], rfl, rfl, fun j u hj => by rcases j with _ | _ | _ | _ | _ | _ | _ | j <;> simp_all⟩
  · rename_i a b c e f g h i r; exact ⟨[a, b, c, e, f, g, h, i], rfl, rfl, fun j u hj => by rcases j with _ | _ | _ | _ | _ | _ | _ | _ | j <;> simp_all⟩
theorem v_load6 {t e : TypeId} {x : Operand} {b off n : Nat} {cs : List Value} {v : Value} (ht : Ty C.P t true n) (hx : evS σ x = some (.pointer (some ⟨b, off, none⟩))) (hv : ld6 n (cs.drop off) = some v) (hh : Has δ (.box b e cs) := by repeat (first | exact Has.here | apply Has.there)) :
    ValJ C σ ds I δ (.load t x) (v) :=
  fun _ _ _ _ _ => (fun a w he hs => by
    obtain ⟨us, hl, rfl, hu⟩ := ld6_spec hv
    have := run_loadAt ht (w := w) (a := ⟨b, off, none⟩) hl (fun j v hj => by
      rw [add_plain, box_cell (hs.ents _ hh.mem)]
      have := hu j v hj
      simpa [List.getElem?_drop] using this)
    simp [execOp, he.ev hx, this])
theorem Imm.leA {I J : Imm} (h : I.le J := by repeat (first | exact Imm.le_refl _ | assumption | refine Imm.le_trans ?_ (by assumption))) : I.le J := h
/-! ### the same rules, with their side proofs searched for -/
theorem v_cmptA {op : BinOp} {t t' : TypeId} {x y : Operand} {a b : Int} {p : Prop} {ip : Decidable p} (hx : evS σ x = some (.int .i64 a)) (hy : evS σ y = some (.int .i64 b)) (hz : cmpI op a b = some (@decide p ip)) (hp : p := by first | omega | (simp; done) | (simp; omega)) : ValJ C σ ds I δ (.binOp op t x y t') (.bool true) := v_cmpt hx hy hz hp
theorem v_cmpfA {op : BinOp} {t t' : TypeId} {x y : Operand} {a b : Int} {p : Prop} {ip : Decidable p} (hx : evS σ x = some (.int .i64 a)) (hy : evS σ y = some (.int .i64 b)) (hz : cmpI op a b = some (@decide p ip)) (hp : ¬ p := by first | omega | (simp; done) | (simp; omega)) : ValJ C σ ds I δ (.binOp op t x y t') (.bool false) := v_cmpf hx hy hz hp
theorem v_loadA {t e : TypeId} {x : Operand} {b off n : Nat} {agg : Bool} {cs : List Value} {v : Value} (ht : Ty C.P t agg n) (hx : evS σ x = some (.pointer (some ⟨b, off, none⟩))) (hv : ld agg n (cs.drop off) = some v) (hh : Has δ (.box b e cs) := by repeat (first | exact Has.here | apply Has.there)) :
    ValJ C σ ds I δ (.load t x) v := v_load ht hx hh hv
theorem v_indexA {t e : TypeId} {x y : Operand} {ad : Option Addr} {n c i size : Nat} (ht : C.P.underlying t = some (.slice e)) (hsz : (C.P.info? e).map (·.size) = some size)
    (hx : evS σ x = some (.slice ad n c)) (hy : evS σ y = some (.int .i64 (i : Int))) (hi : i < n := by omega) (had : ad.isSome = true := by assumption) : ValJ C σ ds I δ (.indexAddr t x y) (pa ad (i * size)) := v_index ht hsz hx hy hi had
theorem v_indexIA {t e : TypeId} {x y : Operand} {ad : Option Addr} {n c size : Nat} {i : Int} (ht : C.P.underlying t = some (.slice e)) (hsz : (C.P.info? e).map (·.size) = some size)
    (hx : evS σ x = some (.slice ad n c)) (hy : evS σ y = some (.int .i64 i)) (h0 : 0 ≤ i := by first | omega | (simp; done) | (simp; omega)) (hi : i < n := by first | omega | (simp; done) | (simp; omega)) (had : ad.isSome = true := by assumption) : ValJ C σ ds I δ (.indexAddr t x y) (pa ad (i.toNat * size)) := v_indexI ht hsz hx hy h0 hi had
theorem e_fl {Ib : Imm} {keep : Nat → List Ent} {ord : Plan} {pend : Pend} {listed : Array Bool} {i d : Nat} {v : Value} (hdst : (ops[i]?).bind (·.dst) = some d) (hd : Nat.blt d C.n = true) (hpf : d ∉ Looks ops i → PF C ops Ib (keep i) ((d, v) :: σ) ds i d v)
    (k : EJ C ops Q Ib keep ord ((i, d, v) :: pend) (listed.setIfInBounds i true) ((d, v) :: σ) ds I δ) (hkeep : Ib.le I := by repeat (first | exact Imm.le_refl _ | assumption | refine Imm.le_trans ?_ (by assumption)))
    (hsub : ∀ x ∈ keep i, x ∈ δ := by intro x hx; first | exact hx | exact List.mem_cons_of_mem _ hx | exact List.mem_append_right _ hx | (simp only [List.mem_cons, List.not_mem_nil, or_false] at hx; repeat' (first | (subst hx; simp [cellsL]; done) | rcases hx with hx | hx)) | simp_all) :
    EJ C ops Q Ib keep (.fl i ord) pend listed σ ds I δ := e_float hdst hd hpf hkeep hsub k
theorem side_allA {Ib : Imm} {keep : Nat → List Ent} {pend : Pend} (h1 : Ib.le I := by repeat (first | exact Imm.le_refl _ | assumption | refine Imm.le_trans ?_ (by assumption)))
    (h2 : ∀ i, ∀ x ∈ keep i, x ∈ δ := by intro _ x hx; first | exact hx | exact List.mem_cons_of_mem _ hx | exact List.mem_append_right _ hx | (simp only [List.mem_cons, List.not_mem_nil, or_false] at hx; repeat' (first | (subst hx; simp [cellsL]; done) | rcases hx with hx | hx)) | simp_all) : Side Ib I keep pend δ := side_all h1 h2
end Go.Proofs.Ythbcdffldcdfoaa.Lg
