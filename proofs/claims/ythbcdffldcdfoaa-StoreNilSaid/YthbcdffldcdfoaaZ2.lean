/- Own texts, one behind the other: rules of a small program logic, walks through the program's functions, plain facts. No condition. -/
import Derived.Test.YthbcdffldcdfoaaZ1
import Derived.WalkKit
import Derived.ProofKit
import Derived.OpenShut
import Derived.ShutString
import Derived.ChangeOld
import Derived.ChangeSlices
import Derived.Below
import Derived.Carry
import Derived.SizedLaws
/- How rows of numbers and terms lie in memory. Plain definitions; no condition. -/
namespace Go.Proofs.Ythbcdffldcdfoaa
open Go Lg

def InR (n : Int) : Prop := -9223372036854775808 ≤ n ∧ n ≤ 9223372036854775807

/-- a row of numbers that is only read -/
inductive RInts (I : Imm) : Value → List Int → Prop
  | mk (ad : Option Addr) (c : Nat) (xs : List Int) (hc : xs.length ≤ c) (hb : xs.length ≤ 17592186044416) (hat : Cells I ad (xs.map (Value.int .i64))) (hr : ∀ x ∈ xs, InR x) : RInts I (.slice ad xs.length c) xs

theorem RInts.mono {I J : Imm} {v : Value} {xs : List Int} (h : RInts I v xs) (hl : I.le J) : RInts J v xs := by
  obtain ⟨ad, c, xs, hc, hb, hat, hr⟩ := h
  exact ⟨ad, c, xs, hc, hb, hat.mono hl, hr⟩
theorem RInts.nil (I : Imm) : RInts I (.slice none 0 0) [] := ⟨none, 0, [], Nat.le_refl _, by simp, fun j v hj => by simp at hj, fun x hx => by cases hx⟩

theorem ints_at {I : Imm} {ad : Option Addr} {xs : List Int} (h : Cells I ad (xs.map (Value.int .i64))) (i : Nat) (hi : i < xs.length) : At I ad (i * 1) [.int .i64 xs[i]] :=
  h.at _ fun j v hj => by
    rcases j with _ | j
    · simp at hj; subst hj; simp [hi]
    · simp at hj
theorem ints_some {I : Imm} {ad : Option Addr} {xs : List Int} (h : Cells I ad (xs.map (Value.int .i64))) (i : Nat) (hi : i < xs.length) : ad.isSome = true := (ints_at h i hi).isSome

/-- a term -/
inductive T where
  | mk (head : Int) (args : List T)
def T.head : T → Int | .mk h _ => h
def T.args : T → List T | .mk _ a => a

inductive RepS (I : Imm) : Value → List T → Prop
  | mk (ad : Option Addr) (c : Nat) (ss : Nat → Option Addr × Nat) (ts : List T) (hc : ts.length ≤ c) (hb : ts.length ≤ 4398046511104)
      (hat : ∀ i (h : i < ts.length), At I ad (i * 2) [.int .i64 ts[i].head, .slice (ss i).1 ts[i].args.length (ss i).2]) (hr : ∀ i (h : i < ts.length), InR ts[i].head)
      (sub : ∀ i (h : i < ts.length), RepS I (.slice (ss i).1 ts[i].args.length (ss i).2) ts[i].args) : RepS I (.slice ad ts.length c) ts
theorem RepS.mono {I J : Imm} {v : Value} {ts : List T} (h : RepS I v ts) (hl : I.le J) : RepS J v ts := by
  induction h with
  | mk ad c ss ts hc hb hat hr _ ih => exact ⟨ad, c, ss, ts, hc, hb, fun i h => (hat i h).mono hl, hr, ih⟩
theorem RepS.nil (I : Imm) : RepS I (.slice none 0 0) [] := ⟨none, 0, fun _ => (none, 0), [], Nat.le_refl _, by simp, fun i h => by simp at h, fun i h => by simp at h, fun i h => by simp at h⟩

/-- a term as a value -/
inductive RepT (I : Imm) : Value → T → Prop
  | mk (s : Value) (t : T) (hr : InR t.head) (hs : RepS I s t.args) : RepT I (.agg #[.int .i64 t.head, s]) t
theorem RepT.mono {I J : Imm} {v : Value} {t : T} (h : RepT I v t) (hl : I.le J) : RepT J v t := by
  obtain ⟨s, t, hr, hs⟩ := h
  exact ⟨s, t, hr, hs.mono hl⟩
theorem RepT.elim {I : Imm} {v : Value} {h : Int} {ts : List T} (hv : RepT I v (.mk h ts)) :
    ∃ (ad : Option Addr) (c : Nat) (ss : Nat → Option Addr × Nat), v = .agg #[.int .i64 h, .slice ad ts.length c] ∧ InR h ∧ ts.length ≤ c ∧ ts.length ≤ 4398046511104 ∧ (∀ i (h : i < ts.length), At I ad (i * 2) [.int .i64 ts[i].head, .slice (ss i).1 ts[i].args.length (ss i).2]) ∧
      (∀ i (h : i < ts.length), RepT I (.agg #[.int .i64 ts[i].head, .slice (ss i).1 ts[i].args.length (ss i).2]) ts[i]) := by
  obtain ⟨s, t, hr, hs⟩ := hv
  obtain ⟨ad, c, ss, ts, hc, hb, hat, hrs, hsub⟩ := hs
  exact ⟨ad, c, ss, rfl, hr, hc, hb, hat, fun i hi => RepT.mk _ _ (hrs i hi) (hsub i hi)⟩
theorem RepT.intro {I : Imm} {h : Int} {ad : Option Addr} {c : Nat} {ts : List T} (ss : Nat → Option Addr × Nat) (hr : InR h) (hc : ts.length ≤ c) (hb : ts.length ≤ 4398046511104) (hat : ∀ i (h : i < ts.length), At I ad (i * 2) [.int .i64 ts[i].head, .slice (ss i).1 ts[i].args.length (ss i).2])
    (hsub : ∀ i (h : i < ts.length), RepT I (.agg #[.int .i64 ts[i].head, .slice (ss i).1 ts[i].args.length (ss i).2]) ts[i]) : RepT I (.agg #[.int .i64 h, .slice ad ts.length c]) (.mk h ts) := by
  have key : ∀ (v : Value) (t : T) (s : Value), RepT I v t → v = .agg #[.int .i64 t.head, s] → InR t.head ∧ RepS I s t.args := fun v t s hv e => by
    obtain ⟨s', t, hr, hs⟩ := hv
    have e' : s' = s := by simpa using e
    subst e'
    exact ⟨hr, hs⟩
  exact RepT.mk _ (.mk h ts) hr ⟨ad, c, ss, ts, hc, hb, hat, fun i hi => (key _ _ _ (hsub i hi) rfl).1, fun i hi => (key _ _ _ (hsub i hi) rfl).2⟩


/-- cells of terms, one behind the other -/
def RowT (I : Imm) (xs : List Value) (ts : List T) : Prop :=
  xs.length = ts.length * 2 ∧ ∀ i (h : i < ts.length), ∃ s : Option Addr × Nat, xs[i * 2]? = some (.int .i64 ts[i].head) ∧ xs[i * 2 + 1]? = some (.slice s.1 ts[i].args.length s.2) ∧ RepT I (.agg #[.int .i64 ts[i].head, .slice s.1 ts[i].args.length s.2]) ts[i]
theorem RowT.nil (I : Imm) : RowT I [] [] := ⟨rfl, fun i h => by simp at h⟩
theorem RowT.mono {I J : Imm} {xs : List Value} {ts : List T} (h : RowT I xs ts) (hl : I.le J) : RowT J xs ts :=
  ⟨h.1, fun i hi => let ⟨s, h1, h2, h3⟩ := h.2 i hi; ⟨s, h1, h2, h3.mono hl⟩⟩
theorem RowT.app {I : Imm} {xs ys : List Value} {ts us : List T} (h : RowT I xs ts) (k : RowT I ys us) : RowT I (xs ++ ys) (ts ++ us) := by
  refine ⟨by simp [h.1, k.1]; omega, fun i hi => ?_⟩
  by_cases hlt : i < ts.length
  · obtain ⟨s, h1, h2, h3⟩ := h.2 i hlt
    have e : (ts ++ us)[i] = ts[i] := List.getElem_append_left hlt
    rw [e]
    exact ⟨s, by rw [List.getElem?_append_left (by rw [h.1]; omega)]; exact h1, by rw [List.getElem?_append_left (by rw [h.1]; omega)]; exact h2, h3⟩
  · have hi' : i - ts.length < us.length := by simp at hi; omega
    obtain ⟨s, h1, h2, h3⟩ := k.2 (i - ts.length) hi'
    have e : (ts ++ us)[i] = us[i - ts.length] := List.getElem_append_right (by omega)
    rw [e]
    refine ⟨s, ?_, ?_, h3⟩
    · rw [List.getElem?_append_right (by rw [h.1]; omega), h.1, ← h1]; congr 1; omega
    · rw [List.getElem?_append_right (by rw [h.1]; omega), h.1, ← h2]; congr 1; omega
theorem RowT.one {I : Imm} {t : T} {a : Option Addr} {c : Nat} (h : RepT I (.agg #[.int .i64 t.head, .slice a t.args.length c]) t) : RowT I [.int .i64 t.head, .slice a t.args.length c] [t] :=
  ⟨rfl, fun i hi => by
    have : i = 0 := by simp at hi; omega
    subst this
    exact ⟨(a, c), rfl, rfl, h⟩⟩
theorem RowT.rep {I : Imm} {ad : Option Addr} {c : Nat} {xs : List Value} {ts : List T} {h : Int} (hc : Cells I ad xs) (hr : RowT I xs ts) (hh : InR h) (hle : ts.length ≤ c) (hb : ts.length ≤ 4398046511104) : RepT I (.agg #[.int .i64 h, .slice ad ts.length c]) (.mk h ts) := by
  have hex : ∃ ss : Nat → Option Addr × Nat, ∀ i (h : i < ts.length), xs[i * 2]? = some (.int .i64 ts[i].head) ∧ xs[i * 2 + 1]? = some (.slice (ss i).1 ts[i].args.length (ss i).2) ∧ RepT I (.agg #[.int .i64 ts[i].head, .slice (ss i).1 ts[i].args.length (ss i).2]) ts[i] := by
    classical
    exact ⟨fun i => if h : i < ts.length then (hr.2 i h).choose else (none, 0), fun i hi => by simp only [dif_pos hi]; exact (hr.2 i hi).choose_spec⟩
  obtain ⟨ss, hss⟩ := hex
  refine RepT.intro ss hh hle hb (fun i hi => hc.at _ fun j v hj => ?_) (fun i hi => (hss i hi).2.2)
  rcases j with _ | _ | j
  · simp at hj; subst hj; exact (hss i hi).1
  · simp at hj; subst hj; exact (hss i hi).2.1
  · simp at hj
/-- the cells of a term's arguments, as they lie -/
def rowsT : List T → (Nat → Option Addr × Nat) → List Value
  | [], _ => []
  | t :: ts, ss => .int .i64 t.head :: .slice (ss 0).1 t.args.length (ss 0).2 :: rowsT ts fun i => ss (i + 1)
theorem rowsT_length : ∀ (ts : List T) (ss : Nat → Option Addr × Nat), (rowsT ts ss).length = ts.length * 2
  | [], _ => rfl
  | t :: ts, ss => by simp [rowsT, rowsT_length ts]; omega
theorem rowsT_at : ∀ (ts : List T) (ss : Nat → Option Addr × Nat) (i : Nat) (h : i < ts.length), (rowsT ts ss)[i * 2]? = some (.int .i64 ts[i].head) ∧ (rowsT ts ss)[i * 2 + 1]? = some (.slice (ss i).1 ts[i].args.length (ss i).2)
  | [], _, i, h => by simp at h
  | t :: ts, ss, 0, _ => ⟨rfl, rfl⟩
  | t :: ts, ss, i + 1, h => by
    have := rowsT_at ts (fun i => ss (i + 1)) i (by simpa using h)
    have e1 : (i + 1) * 2 = i * 2 + 1 + 1 := by omega
    simpa [rowsT, e1] using this
theorem RowT.of {I : Imm} {ad : Option Addr} {ss : Nat → Option Addr × Nat} {ts : List T} (hat : ∀ i (h : i < ts.length), At I ad (i * 2) [.int .i64 ts[i].head, .slice (ss i).1 ts[i].args.length (ss i).2]) (hsub : ∀ i (h : i < ts.length), RepT I (.agg #[.int .i64 ts[i].head, .slice (ss i).1 ts[i].args.length (ss i).2]) ts[i]) :
    Cells I ad (rowsT ts ss) ∧ RowT I (rowsT ts ss) ts := by
  refine ⟨fun j v hj => ?_, rowsT_length ts ss, fun i hi => ⟨ss i, (rowsT_at ts ss i hi).1, (rowsT_at ts ss i hi).2, hsub i hi⟩⟩
  have hlt : j < ts.length * 2 := by rw [← rowsT_length ts ss]; exact (List.getElem?_eq_some_iff.1 hj).1
  have hi : j / 2 < ts.length := by omega
  have h1 := rowsT_at ts ss (j / 2) hi
  have h2 := hat (j / 2) hi
  rcases Nat.mod_two_eq_zero_or_one j with e | e
  · have ej : j / 2 * 2 = j := by omega
    rw [ej] at h1
    rw [h1.1] at hj
    have := h2 0 v (by simpa using hj)
    rwa [Nat.add_zero, ej] at this
  · have ej : j / 2 * 2 + 1 = j := by omega
    rw [ej] at h1
    rw [h1.2] at hj
    have := h2 1 v (by simpa using hj)
    rwa [ej] at this
theorem rowsT_one : ∀ (ts : List T) (ss : Nat → Option Addr × Nat), ∀ u ∈ rowsT ts ss, u.oneCell' = true
  | [], _, u, hu => by simp [rowsT] at hu
  | t :: ts, ss, u, hu => by
    simp only [rowsT, List.mem_cons] at hu
    rcases hu with rfl | rfl | hu
    · rfl
    · rfl
    · exact rowsT_one ts _ u hu
theorem RepT.open {I : Imm} {h : Int} {ad : Option Addr} {n c : Nat} {t : T} (hv : RepT I (.agg #[.int .i64 h, .slice ad n c]) t) :
    h = t.head ∧ n = t.args.length ∧ InR t.head ∧ t.args.length ≤ c ∧ t.args.length ≤ 4398046511104 ∧ ∃ ss : Nat → Option Addr × Nat, (∀ i (h : i < t.args.length), At I ad (i * 2) [.int .i64 t.args[i].head, .slice (ss i).1 t.args[i].args.length (ss i).2]) ∧
      (∀ i (h : i < t.args.length), RepT I (.agg #[.int .i64 t.args[i].head, .slice (ss i).1 t.args[i].args.length (ss i).2]) t.args[i]) := by
  obtain ⟨h', ts⟩ := t
  obtain ⟨ad', c', ss, he, hr, hc, hb, hat, hsub⟩ := hv.elim
  simp at he
  obtain ⟨rfl, rfl, rfl, rfl⟩ := he
  exact ⟨rfl, rfl, hr, hc, hb, ss, hat, hsub⟩
theorem RepT.shape {I : Imm} {v : Value} {t : T} (h : RepT I v t) : ∃ ad c, v = .agg #[.int .i64 t.head, .slice ad t.args.length c] ∧ InR t.head := by
  obtain ⟨s, t, hr, hs⟩ := h
  obtain ⟨ad, c, ss, ts, hc, hb, hat, hrs, hsub⟩ := hs
  exact ⟨ad, c, rfl, hr⟩
theorem RepS.oneCell {I : Imm} {s : Value} {ts : List T} (h : RepS I s ts) : s.oneCell' = true := by
  obtain ⟨ad, c, ss, ts, _, _, _, _, _⟩ := h
  rfl
theorem RepT.args {I : Imm} {s : Value} {t : T} {h : Int} (hv : RepT I (.agg #[.int .i64 h, s]) t) : RepS I s t.args := by
  generalize e : Value.agg #[.int .i64 h, s] = v at hv
  obtain ⟨s', t, hr, hs⟩ := hv
  have e' : h = t.head ∧ s = s' := by simpa using e
  rw [e'.2]; exact hs

theorem RInts.tail {I : Imm} {ad : Option Addr} {c : Nat} {x : Int} {r : List Int} (hc : (x :: r).length ≤ c) (hb : (x :: r).length ≤ 17592186044416) (hat : Cells I ad ((x :: r).map (Value.int .i64))) (hr : ∀ y ∈ x :: r, InR y) :
    RInts I (.slice (cutAt ad c 1 1) r.length (c - 1)) r := by
  refine ⟨_, _, r, by simp at hc; omega, by simp at hb; omega, fun j v hj => ?_, fun y hy => hr y (List.mem_cons_of_mem _ hy)⟩
  have hlt : j < r.length := by simpa using (List.getElem?_eq_some_iff.1 hj).1
  have h1 : At I ad (1 * 1 + j) [v] := hat.at _ fun i u hi => by
    rcases i with _ | i
    · simp at hi; subst hi; rw [show 1 * 1 + j + 0 = j + 1 by omega]; simpa using hj
    · simp at hi
  have := h1.cut (c := c) (by simp at hc; omega) 0 v rfl
  simpa using this
theorem RInts.take {I : Imm} {ad : Option Addr} {c h : Nat} {xs : List Int} (hc : xs.length ≤ c) (hb : xs.length ≤ 17592186044416) (hat : Cells I ad (xs.map (Value.int .i64))) (hr : ∀ y ∈ xs, InR y) (hh : h ≤ xs.length) :
    RInts I (.slice ad h c) (xs.take h) := by
  have e : (xs.take h).length = h := by rw [List.length_take]; omega
  have := RInts.mk (I := I) ad c (xs.take h) (by omega) (by omega) (fun j v hj => hat j v (by
    rw [List.map_take] at hj
    rw [List.getElem?_take] at hj
    split at hj
    · exact hj
    · cases hj)) (fun y hy => hr y (List.mem_of_mem_take hy))
  rwa [e] at this
def underL (p q : List Int) : Bool := decide (p.length ≤ q.length ∧ p = q.take p.length)
def zeroT : T := .mk 0 []
theorem zeroT_rep (I : Imm) : RepT I (.agg #[.int .i64 0, .slice none 0 0]) zeroT := RepT.mk _ (.mk 0 []) (by unfold InR; simp [T.head]) (RepS.nil I)

theorem bool_t {p : Prop} [Decidable p] (h : p) : outV [.bool true] = .bool (decide p) := by simp [outV, h]
theorem bool_f {p : Prop} [Decidable p] (h : ¬ p) : outV [.bool false] = .bool (decide p) := by simp [outV, h]
theorem bool_b {a b : Bool} (h : a = b) : outV [.bool a] = .bool b := by simp [outV, h]
end Go.Proofs.Ythbcdffldcdfoaa
/- Walks: rows of numbers. -/
set_option linter.unusedVariables false
set_option linter.unusedSimpArgs false
/- short -/
namespace Go.Proofs.Ythbcdffldcdfoaa
open Go Lg

theorem Ints_does (I : Imm) {va vb : Value} {xs ys : List Int} (ha : RInts I va xs) (hb : RInts I vb ys) :
    Does Try.prog 51 [va, vb] I [] (fun v I' δ' => v = .bool (decide (xs = ys)) ∧ δ' = []) := by
  obtain ⟨ad, c, xs, hc, hn, hca, hra⟩ := ha
  obtain ⟨bd, e, ys, he, hm, hcb, hrb⟩ := hb
  refine Does.intro Try.func51 rfl Try.ntmps51 rfl fun w0 => ?_
  refine code_seq ?_
  refine code_region ?_
  refine op_v (v_assign rfl) rfl ?_
  refine ops_nil ?_
  refine post_next ?_
  refine code_seq ?_
  refine code_seq ?_
  refine code_region ?_
  refine op_v (v_move rfl) rfl ?_
  refine op_v (v_len Try.underlying28 rfl) rfl ?_
  refine op_v (v_move rfl) rfl ?_
  refine op_v (v_len Try.underlying28 rfl) rfl ?_
  first | refine op_v (v_cmptA rfl rfl rfl) rfl ?_ | refine op_v (v_cmpfA rfl rfl rfl) rfl ?_ | refine op_v (v_cmp rfl rfl rfl) rfl ?_
  refine ops_nil ?_
  refine post_next ?_
  refine code_cond rfl (fun hc0 => ?_) (fun hc0 => ?_)
  · have hl : xs.length ≠ ys.length := by simp at hc0; omega
    refine code_seq ?_
    refine code_region ?_
    refine op_v (v_assign rfl) rfl ?_
    refine ops_nil ?_
    refine post_next ?_
    refine code_ret ?_
    refine post_ret_then ?_
    refine post_ret (rs := [.tmp 4]) rfl (List.Perm.refl _) (.cons (.tmp rfl) .nil) (List.nil_sublist _) ?_
    exact ⟨bool_f fun e => hl (by rw [e]), rfl⟩
  · have hl : xs.length = ys.length := by simp at hc0; omega
    refine code_skip ?_
    refine post_next ?_
    refine code_seq ?_
    refine code_seq ?_
    refine code_region ?_
    refine op_v (v_assign rfl) rfl ?_
    refine ops_nil ?_
    refine post_next ?_
    refine code_block ?_
    refine code_loop (fun m σ' I' δ' => ∃ k : Nat, k ≤ xs.length ∧ m = xs.length - k ∧ σ' = [(0, .slice ad xs.length c), (1, .slice bd ys.length e), (5, .int .i64 k)] ∧ I' = I ∧ δ' = [] ∧ ∀ j (h : j < k) (h1 : j < xs.length) (h2 : j < ys.length), xs[j] = ys[j]) xs.length [(0, .slice ad xs.length c), (1, .slice bd ys.length e), (5, .int .i64 (0 : Nat))] ⟨0, Nat.zero_le _, rfl, rfl, rfl, rfl, fun j h => by omega⟩ ⟨rfl, rfl, rfl, trivial⟩ ?_
    rintro m _ _ _ ⟨k, hk, rfl, rfl, rfl, rfl, hp⟩
    refine code_seq ?_
    refine code_seq ?_
    refine code_region ?_
    refine op_v (v_move rfl) rfl ?_
    refine op_v (v_move rfl) rfl ?_
    refine op_v (v_len Try.underlying28 rfl) rfl ?_
    first | refine op_v (v_cmptA rfl rfl rfl) rfl ?_ | refine op_v (v_cmpfA rfl rfl rfl) rfl ?_ | refine op_v (v_cmp rfl rfl rfl) rfl ?_
    refine ops_nil ?_
    refine post_next ?_
    refine code_cond rfl (fun hc1 => ?_) (fun hc1 => ?_)
    · have hlt : k < xs.length := by simpa using hc1
      have hlt' : k < ys.length := by omega
      have hs1 := ints_some hca k hlt
      have hs2 := ints_some hcb k hlt'
      refine code_skip ?_
      refine post_next ?_
      refine code_seq ?_
      refine code_block ?_
      refine code_seq ?_
      refine code_draw (.fl 0 (.fl 1 (.fl 2 (.fl 3 (.fl 4 (.fl 5 (.fl 6 (.fl 7 (.fl 8 .done))))))))) (fun _ => _) mixed (by kernel_rfl) (by kernel_rfl) (fun _ => (List.Sublist.refl _)) ?_
      refine e_fl rfl rfl (fun hs_ => PF.mk rfl (v_move rfl) hs_) ?_
      refine e_fl rfl rfl (fun hs_ => PF.mk rfl (v_move rfl) hs_) ?_
      first | refine e_fl rfl rfl (fun hs_ => PF.mk rfl (v_indexA Try.underlying28 sz3 rfl rfl) hs_) ?_ | refine e_fl rfl rfl (fun hs_ => PF.mk rfl (v_indexIA Try.underlying28 sz3 rfl rfl) hs_) ?_
      first | refine e_fl rfl rfl (fun hs_ => PF.mk rfl (v_loadI0 ty3 (ints_at hca k hlt) rfl rfl rfl) hs_) ?_ | refine e_fl rfl rfl (fun hs_ => PF.mk rfl (v_loadI ty3 (ints_at hca k hlt) rfl rfl rfl) hs_) ?_
      refine e_fl rfl rfl (fun hs_ => PF.mk rfl (v_move rfl) hs_) ?_
      refine e_fl rfl rfl (fun hs_ => PF.mk rfl (v_move rfl) hs_) ?_
      first | refine e_fl rfl rfl (fun hs_ => PF.mk rfl (v_indexA Try.underlying28 sz3 rfl rfl) hs_) ?_ | refine e_fl rfl rfl (fun hs_ => PF.mk rfl (v_indexIA Try.underlying28 sz3 rfl rfl) hs_) ?_
      first | refine e_fl rfl rfl (fun hs_ => PF.mk rfl (v_loadI0 ty3 (ints_at hcb k hlt') rfl rfl rfl) hs_) ?_ | refine e_fl rfl rfl (fun hs_ => PF.mk rfl (v_loadI ty3 (ints_at hcb k hlt') rfl rfl rfl) hs_) ?_
      first | refine e_fl rfl rfl (fun hs_ => PF.mk rfl (v_cmptA rfl rfl rfl) hs_) ?_ | refine e_fl rfl rfl (fun hs_ => PF.mk rfl (v_cmpfA rfl rfl rfl) hs_) ?_ | refine e_fl rfl rfl (fun hs_ => PF.mk rfl (v_cmp rfl rfl rfl) hs_) ?_
      refine e_done ?_
      refine post_next ?_
      refine code_cond rfl (fun hc2 => ?_) (fun hc2 => ?_)
      · have hne : xs[k] ≠ ys[k] := by simpa using hc2
        refine code_seq ?_
        refine code_region ?_
        refine op_v (v_assign rfl) rfl ?_
        refine ops_nil ?_
        refine post_next ?_
        refine code_ret ?_
        refine post_ret_block ?_
        refine post_ret_then ?_
        refine post_ret_then ?_
        refine post_ret_block ?_
        refine post_ret_then ?_
        refine post_ret (rs := [.tmp 4]) rfl (List.Perm.refl _) (.cons (.tmp rfl) .nil) (List.nil_sublist _) ?_
        exact ⟨bool_f fun e => hne (by subst e; rfl), rfl⟩
      · have heq : xs[k] = ys[k] := by simpa using hc2
        refine code_skip ?_
        refine post_out ?_
        refine post_next ?_
        refine code_region ?_
        refine op_v (v_move rfl) rfl ?_
        first | refine op_v (v_addb rfl rfl rfl (by omega)) rfl ?_ | refine op_v (v_add rfl rfl) rfl ?_
        refine op_v (v_assign rfl) rfl ?_
        refine ops_nil ?_
        refine post_again (xs.length - (k + 1)) [(0, .slice ad xs.length c), (1, .slice bd ys.length e), (5, .int .i64 ((k + 1 : Nat) : Int))] (by omega) ⟨k + 1, hlt, rfl, rfl, rfl, rfl, fun j h h1 h2 => ?_⟩ ⟨rfl, rfl, rfl, trivial⟩
        by_cases hj : j = k
        · subst hj; exact heq
        · exact hp j (by omega) h1 h2
    · have hge : ¬ k < xs.length := by simpa using hc1
      refine code_exit ?_
      refine post_exit_then ?_
      refine post_exit_then ?_
      refine post_exit ?_
      refine post_next ?_
      refine code_seq ?_
      refine code_region ?_
      refine op_v (v_assign rfl) rfl ?_
      refine ops_nil ?_
      refine post_next ?_
      refine code_ret ?_
      refine post_ret (rs := [.tmp 4]) rfl (List.Perm.refl _) (.cons (.tmp rfl) .nil) (List.nil_sublist _) ?_
      exact ⟨bool_t (List.ext_getElem hl fun j h1 h2 => hp j (by omega) h1 h2), rfl⟩
end Go.Proofs.Ythbcdffldcdfoaa
/- Plain facts on terms. No condition. -/
set_option linter.unusedVariables false
set_option linter.unusedSimpArgs false
namespace Go.Proofs.Ythbcdffldcdfoaa

mutual
def T.size : T → Nat
  | .mk _ ars => 1 + sizeL ars
def sizeL : List T → Nat
  | [] => 0
  | t :: r => t.size + sizeL r
end
theorem T.size_pos (t : T) : 1 ≤ t.size := by cases t; simp [T.size]
theorem sizeL_drop (ars : List T) (k : Nat) (h : k < ars.length) : sizeL (ars.drop k) = ars[k].size + sizeL (ars.drop (k + 1)) := by
  rw [List.drop_eq_getElem_cons h]; simp [sizeL]
theorem sizeL_mem : ∀ (ars : List T) (k : Nat) (h : k < ars.length), ars[k].size ≤ sizeL ars
  | t :: r, 0, _ => by simp [sizeL]
  | t :: r, k + 1, h => by
    have := sizeL_mem r k (by simpa using h)
    simp [sizeL]; omega
theorem sizeL_len : ∀ (ars : List T), ars.length ≤ sizeL ars
  | [] => by simp [sizeL]
  | t :: r => by have := sizeL_len r; have := t.size_pos; simp [sizeL]; omega

def ordI (a b : Int) : Int := if a < b then -1 else if a > b then 1 else 0
mutual
def cmpT : T → T → Int
  | .mk h ars, .mk g bs =>
    if 1 + sizeL ars ≠ 1 + sizeL bs then ordI (1 + sizeL ars : Nat) (1 + sizeL bs : Nat)
    else if h ≠ g then ordI h g
    else if ars.length ≠ bs.length then ordI ars.length bs.length
    else cmpL ars bs
def cmpL : List T → List T → Int
  | a :: ars, b :: bs => if cmpT a b ≠ 0 then cmpT a b else cmpL ars bs
  | _, _ => 0
end
theorem ordI_range (a b : Int) : -1 ≤ ordI a b ∧ ordI a b ≤ 1 := by
  unfold ordI
  split
  · omega
  · split <;> omega
mutual
theorem cmpT_range : ∀ (a b : T), -1 ≤ cmpT a b ∧ cmpT a b ≤ 1
  | .mk h ars, .mk g bs => by
    unfold cmpT
    split
    · exact ordI_range _ _
    · split
      · exact ordI_range _ _
      · split
        · exact ordI_range _ _
        · exact cmpL_range ars bs
theorem cmpL_range : ∀ (a b : List T), -1 ≤ cmpL a b ∧ cmpL a b ≤ 1
  | [], _ => by simp [cmpL]
  | _ :: _, [] => by simp [cmpL]
  | a :: ars, b :: bs => by
    unfold cmpL
    split
    · exact cmpT_range a b
    · exact cmpL_range ars bs
end
theorem ordI_zero {a b : Int} (h : ordI a b = 0) : a = b := by
  unfold ordI at h
  split at h
  · omega
  · split at h <;> omega
mutual
theorem cmpT_zero : ∀ (a b : T), cmpT a b = 0 → a = b
  | .mk h ars, .mk g bs, e => by
    unfold cmpT at e
    split at e
    · have := ordI_zero e; omega
    · split at e
      · exact absurd (ordI_zero e) (by assumption)
      · split at e
        · have := ordI_zero e; omega
        · rename_i h1 h2 h3
          have h2' : h = g := by omega
          have h3' : ars.length = bs.length := by omega
          rw [h2', cmpL_zero ars bs h3' e]
theorem cmpL_zero : ∀ (a b : List T), a.length = b.length → cmpL a b = 0 → a = b
  | [], [], _, _ => rfl
  | [], _ :: _, h, _ => by simp at h
  | _ :: _, [], h, _ => by simp at h
  | a :: ars, b :: bs, h, e => by
    unfold cmpL at e
    split at e
    · rename_i hne; exact absurd e hne
    · rename_i h0
      have h0' : cmpT a b = 0 := by omega
      rw [cmpT_zero a b h0', cmpL_zero ars bs (by simpa using h) e]
end
mutual
theorem cmpT_self : ∀ (a : T), cmpT a a = 0
  | .mk h ars => by simp [cmpT, cmpL_self ars]
theorem cmpL_self : ∀ (a : List T), cmpL a a = 0
  | [] => by simp [cmpL]
  | a :: ars => by simp [cmpL, cmpT_self a, cmpL_self ars]
end
theorem cmpT_eq (a b : T) : cmpT a b = 0 ↔ a = b := ⟨cmpT_zero a b, fun h => by subst h; exact cmpT_self a⟩
theorem cmpL_drop (ars bs : List T) (k : Nat) (h : k < ars.length) (h' : k < bs.length) :
    cmpL (ars.drop k) (bs.drop k) = if cmpT ars[k] bs[k] ≠ 0 then cmpT ars[k] bs[k] else cmpL (ars.drop (k + 1)) (bs.drop (k + 1)) := by
  rw [List.drop_eq_getElem_cons h, List.drop_eq_getElem_cons h', cmpL]
/-- the part at a place -/
def atT : T → List Int → Option T
  | t, [] => some t
  | t, x :: r => if h : 0 ≤ x ∧ x.toNat < t.args.length then atT (t.args[x.toNat]'h.2) r else none
instance : DecidableEq T := fun a b => if h : cmpT a b = 0 then .isTrue ((cmpT_eq a b).1 h) else .isFalse fun e => h ((cmpT_eq a b).2 e)
theorem sizeL_app (a b : List T) : sizeL (a ++ b) = sizeL a + sizeL b := by
  induction a with
  | nil => simp [sizeL]
  | cons x r ih => simp [sizeL, ih]; omega

theorem sizeL_take (l : List T) (k : Nat) (h : k < l.length) : sizeL (l.take (k + 1)) = sizeL (l.take k) + l[k].size := by
  rw [List.take_succ_eq_append_getElem h, sizeL_app]; simp [sizeL]
end Go.Proofs.Ythbcdffldcdfoaa
/- Walks: sizes, comparison. -/
set_option linter.unusedVariables false
set_option linter.unusedSimpArgs false
/- short -/
namespace Go.Proofs.Ythbcdffldcdfoaa
open Go Lg

theorem Count_does : ∀ (n : Nat) (t : T), t.size ≤ n → ∀ (q : Nat), q ≤ 1000000000 → ∀ (I : Imm) (v : Value), RepT I v t →
    Does Try.prog 62 [v, .int .i64 q] I [] (fun v I' δ' => v = .int .i64 ((min t.size (q + 1) : Nat) : Int) ∧ δ' = []) := by
  intro n
  induction n with
  | zero => intro t ht; have := t.size_pos; omega
  | succ n ih =>
    intro t ht q hq I v hv
    obtain ⟨h, ts⟩ := t
    obtain ⟨ad, c, ss, rfl, hr, hc, hb, hat, hsub⟩ := hv.elim
    have hsz : (T.mk h ts).size = 1 + sizeL ts := by simp [T.size]
    refine Does.intro Try.func62 rfl Try.ntmps62 rfl fun w0 => ?_
    refine code_seq ?_
    refine code_region ?_
    refine o_box rfl rfl rfl (fun b2 => ?_)
    refine op_v (v_assign rfl) rfl ?_
    refine ops_nil ?_
    refine post_next ?_
    refine code_seq ?_
    refine code_region ?_
    refine op_v (v_assign rfl) rfl ?_
    refine ops_nil ?_
    refine post_next ?_
    refine code_seq ?_
    refine code_seq ?_
    refine code_region ?_
    refine op_v (v_assign rfl) rfl ?_
    refine ops_nil ?_
    refine post_next ?_
    refine code_block ?_
    refine code_loop (fun m σ' I' δ' => ∃ k a : Nat, m = ts.length - k ∧ k ≤ ts.length ∧ σ' = [(1, .int .i64 q), (2, .pointer (some ⟨b2, 0, none⟩)), (5, .int .i64 a), (6, .int .i64 k)] ∧ I.le I' ∧ δ' = [.box b2 108 [.int .i64 h, .slice ad ts.length c]] ∧ a ≤ q + 1 ∧ min (a + sizeL (ts.drop k)) (q + 1) = min (1 + sizeL ts) (q + 1)) ts.length [(1, .int .i64 q), (2, .pointer (some ⟨b2, 0, none⟩)), (5, .int .i64 (1 : Nat)), (6, .int .i64 (0 : Nat))] ⟨0, 1, rfl, Nat.zero_le _, rfl, Imm.le_refl _, rfl, by omega, rfl⟩ ⟨rfl, rfl, rfl, rfl, trivial⟩ ?_
    rintro m _ I0 _ ⟨k, a, rfl, hk, rfl, hI0, rfl, ha, hp⟩
    refine code_seq ?_
    refine code_seq ?_
    refine code_region ?_
    refine op_v (v_move rfl) rfl ?_
    first | refine op_v (v_fieldB 1 Try.underlying108 rfl rfl fz93 rfl) rfl ?_ | refine op_v (v_fieldI 1 Try.underlying108 rfl rfl fz93 rfl (by assumption)) rfl ?_ | refine op_v (v_field Try.underlying108 rfl fz93 rfl rfl) rfl ?_
    refine op_v (v_loadA ty93 rfl rfl) rfl ?_
    refine op_v (v_len Try.underlying93 rfl) rfl ?_
    by_cases hlt : k < ts.length
    · first | refine op_v (v_cmptA rfl rfl rfl) rfl ?_ | refine op_v (v_cmpfA rfl rfl rfl) rfl ?_ | refine op_v (v_cmp rfl rfl rfl) rfl ?_
      refine op_v (v_move rfl) rfl ?_
      first
        | (refine op_want rfl rfl ?_
           refine op_v (v_move rfl) rfl ?_)
        | (refine op_skip rfl rfl (by simp [undef]) rfl ?_)
      first
        | (refine op_want rfl rfl ?_
           refine op_v (v_move rfl) rfl ?_)
        | (refine op_skip rfl rfl (by simp [undef]) rfl ?_)
      by_cases hle : a ≤ q
      · first
          | (refine op_want rfl rfl ?_
             first | refine op_v (v_cmptA rfl rfl rfl) rfl ?_ | refine op_v (v_cmpfA rfl rfl rfl) rfl ?_ | refine op_v (v_cmp rfl rfl rfl) rfl ?_)
          | (refine op_skip rfl rfl (by simp [undef]) rfl ?_)
        first | refine op_v (v_pickt rfl rfl) rfl ?_ | refine op_v (v_pickf rfl rfl) rfl ?_ | refine op_v (v_pickb rfl rfl rfl) rfl ?_
        refine ops_nil ?_
        refine post_next ?_
        refine code_cond_t rfl ?_
        refine code_skip ?_
        refine post_next ?_
        refine code_seq ?_
        refine code_block ?_
        refine code_region ?_
        have hs1 := (hat k hlt).isSome
        have hd := sizeL_drop ts k hlt
        have hm := sizeL_mem ts k hlt
        refine op_v (v_move rfl) rfl ?_
        first | refine op_v (v_fieldB 1 Try.underlying108 rfl rfl fz93 rfl) rfl ?_ | refine op_v (v_fieldI 1 Try.underlying108 rfl rfl fz93 rfl (by assumption)) rfl ?_ | refine op_v (v_field Try.underlying108 rfl fz93 rfl rfl) rfl ?_
        refine op_v (v_loadA ty93 rfl rfl) rfl ?_
        refine op_v (v_move rfl) rfl ?_
        first | refine op_v (v_indexA Try.underlying93 sz108 rfl rfl) rfl ?_ | refine op_v (v_indexIA Try.underlying93 sz108 rfl rfl) rfl ?_
        first | refine op_v (v_loadI0 ty108 ((hat k hlt).mono hI0) rfl rfl rfl) rfl ?_ | refine op_v (v_loadI ty108 ((hat k hlt).mono hI0) rfl rfl rfl) rfl ?_
        refine op_v (v_move rfl) rfl ?_
        refine op_v (v_move rfl) rfl ?_
        refine op_v (v_subb (c := ((q - a : Nat) : Int)) rfl rfl (by omega) (by omega)) rfl ?_
        refine op_call pl62 rfl rfl ((ih ts[k] (by omega) (q - a) (by omega) _ _ ((hsub k hlt).mono hI0))) Parts.none ?_
        rintro _ I18 _ hI18 ⟨rfl, rfl⟩
        first | refine op_v (v_addb rfl rfl rfl (by omega)) rfl ?_ | refine op_v (v_add rfl rfl) rfl ?_
        refine op_v (v_assign rfl) rfl ?_
        refine ops_nil ?_
        refine post_out ?_
        refine post_next ?_
        refine code_region ?_
        refine op_v (v_move rfl) rfl ?_
        first | refine op_v (v_addb rfl rfl rfl (by omega)) rfl ?_ | refine op_v (v_add rfl rfl) rfl ?_
        refine op_v (v_assign rfl) rfl ?_
        refine ops_nil ?_
        refine post_again (ts.length - (k + 1)) [(1, .int .i64 q), (2, .pointer (some ⟨b2, 0, none⟩)), (5, .int .i64 ((a + min ts[k].size (q - a + 1) : Nat) : Int)), (6, .int .i64 ((k + 1 : Nat) : Int))] (by omega) ⟨k + 1, a + min ts[k].size (q - a + 1), rfl, hlt, rfl, Imm.le_trans hI0 hI18, rfl, by omega, by omega⟩ ⟨rfl, rfl, rfl, rfl, trivial⟩
      · first
          | (refine op_want rfl rfl ?_
             first | refine op_v (v_cmptA rfl rfl rfl) rfl ?_ | refine op_v (v_cmpfA rfl rfl rfl) rfl ?_ | refine op_v (v_cmp rfl rfl rfl) rfl ?_)
          | (refine op_skip rfl rfl (by simp [undef]) rfl ?_)
        first | refine op_v (v_pickt rfl rfl) rfl ?_ | refine op_v (v_pickf rfl rfl) rfl ?_ | refine op_v (v_pickb rfl rfl rfl) rfl ?_
        refine ops_nil ?_
        refine post_next ?_
        refine code_cond_f rfl ?_
        refine code_exit ?_
        refine post_exit_then ?_
        refine post_exit_then ?_
        refine post_exit ?_
        refine post_next ?_
        refine code_seq ?_
        refine code_region ?_
        refine op_v (v_move rfl) rfl ?_
        refine op_v (v_assign rfl) rfl ?_
        refine ops_nil ?_
        refine post_next ?_
        refine code_ret ?_
        refine post_ret (rs := [.tmp 4]) rfl (List.Perm.refl _) (.cons (.tmp rfl) .nil) (List.nil_sublist _) ?_
        exact ⟨by simp only [outV, hsz, ← hp]; congr 2; omega, rfl⟩
    · first | refine op_v (v_cmptA rfl rfl rfl) rfl ?_ | refine op_v (v_cmpfA rfl rfl rfl) rfl ?_ | refine op_v (v_cmp rfl rfl rfl) rfl ?_
      refine op_v (v_move rfl) rfl ?_
      first
        | (refine op_want rfl rfl ?_
           refine op_v (v_move rfl) rfl ?_)
        | (refine op_skip rfl rfl (by simp [undef]) rfl ?_)
      first
        | (refine op_want rfl rfl ?_
           refine op_v (v_move rfl) rfl ?_)
        | (refine op_skip rfl rfl (by simp [undef]) rfl ?_)
      first
        | (refine op_want rfl rfl ?_
           first | refine op_v (v_cmptA rfl rfl rfl) rfl ?_ | refine op_v (v_cmpfA rfl rfl rfl) rfl ?_ | refine op_v (v_cmp rfl rfl rfl) rfl ?_)
        | (refine op_skip rfl rfl (by simp [undef]) rfl ?_)
      first | refine op_v (v_pickt rfl rfl) rfl ?_ | refine op_v (v_pickf rfl rfl) rfl ?_ | refine op_v (v_pickb rfl rfl rfl) rfl ?_
      refine ops_nil ?_
      refine post_next ?_
      refine code_cond_f rfl ?_
      refine code_exit ?_
      refine post_exit_then ?_
      refine post_exit_then ?_
      refine post_exit ?_
      refine post_next ?_
      refine code_seq ?_
      refine code_region ?_
      refine op_v (v_move rfl) rfl ?_
      refine op_v (v_assign rfl) rfl ?_
      refine ops_nil ?_
      refine post_next ?_
      refine code_ret ?_
      refine post_ret (rs := [.tmp 4]) rfl (List.Perm.refl _) (.cons (.tmp rfl) .nil) (List.nil_sublist _) ?_
      rw [List.drop_eq_nil_of_le (by omega)] at hp
      simp only [sizeL] at hp
      exact ⟨by simp only [outV, hsz, ← hp]; congr 2; omega, rfl⟩

end Go.Proofs.Ythbcdffldcdfoaa
/- Walks: copies, places. -/
set_option linter.unusedVariables false
set_option linter.unusedSimpArgs false
/- short -/
namespace Go.Proofs.Ythbcdffldcdfoaa
open Go Lg

end Go.Proofs.Ythbcdffldcdfoaa
/- Walks: places, by definition. -/
set_option linter.unusedVariables false
set_option linter.unusedSimpArgs false
/- short -/
namespace Go.Proofs.Ythbcdffldcdfoaa
open Go Lg

def AtR (t : T) (p : List Int) (v : Value) (I : Imm) : Prop := ∃ u, v = .tuple #[u, .bool (atT t p).isSome] ∧ RepT I u ((atT t p).getD zeroT)

end Go.Proofs.Ythbcdffldcdfoaa
/- Walks: places under others; clones. -/
set_option linter.unusedVariables false
set_option linter.unusedSimpArgs false
/- short -/
namespace Go.Proofs.Ythbcdffldcdfoaa
open Go Lg

theorem Clone_does (I : Imm) {ad : Option Addr} {n c : Nat} {xs : List Value} (hc : Cells I ad xs) (hl : xs.length = n * 2) (h1 : ∀ u ∈ xs, u.oneCell' = true) (hn : n ≤ 4398046511104) :
    Does Try.prog 64 [.slice ad n c] I [] (fun v I' δ' => ∃ ad' c', v = .slice ad' n c' ∧ δ' = [.row (.slice ad' n c') 108 2 n xs]) := by
  refine Does.intro Try.func64 rfl Try.ntmps64 rfl fun w0 => ?_
  refine code_seq ?_
  refine code_region ?_
  refine op_v (v_assign rfl) rfl ?_
  refine ops_nil ?_
  refine post_next ?_
  refine code_seq ?_
  refine code_seq ?_
  refine code_region ?_
  refine op_v (v_move rfl) rfl ?_
  refine op_v (v_nilq Try.underlying93 rfl rfl rfl) rfl ?_
  refine ops_nil ?_
  refine post_next ?_
  refine code_cond rfl (fun hc0 => ?_) (fun hc0 => ?_)
  · have had : ad = none := by simpa using hc0
    subst had
    have hn0 : n = 0 := by
      rcases Nat.eq_zero_or_pos n with h | h
      · exact h
      · exfalso
        have := hc 0 (xs[0]'(by omega)) (by simp)
        simp [Imm.cellO] at this
    subst hn0
    obtain rfl : xs = [] := List.eq_nil_of_length_eq_zero hl
    refine code_seq ?_
    refine code_region ?_
    refine op_v (v_assign rfl) rfl ?_
    refine ops_nil ?_
    refine post_next ?_
    refine code_ret ?_
    refine post_ret_then ?_
    refine PostJ.view (View.nilRow 108 2) (post_ret (rs := [.tmp 2]) rfl (List.Perm.refl _) (.cons (.tmp rfl) .nil) (List.Sublist.refl _) ⟨none, 0, rfl, rfl⟩)
  · refine code_skip ?_
    refine post_next ?_
    refine code_seq ?_
    refine code_region ?_
    refine o_buildSlice (xs := []) Try.underlying93 bs108 rfl rfl rfl rfl rfl (fun b5 => ?_)
    refine op_v (v_move rfl) rfl ?_
    refine o_append Try.underlying93 bs108 rfl rfl rfl (fun v' => by repeat (first | exact Swap.here | apply Swap.there)) (Src.ofI hc) hl h1 (by omega) (by omega) (fun a7 c7 => ?_)
    refine op_v (v_assign rfl) rfl ?_
    refine ops_nil ?_
    refine post_next ?_
    refine code_ret ?_
    refine post_ret (rs := [.tmp 2]) rfl (List.Perm.refl _) (.cons (.tmp rfl) .nil) (List.Sublist.refl _) ?_
    refine ⟨a7, c7, ?_, ?_⟩
    · simp [outV]
    · simp [cat]
end Go.Proofs.Ythbcdffldcdfoaa
/- Walks: the part at a place. -/
set_option linter.unusedVariables false
set_option linter.unusedSimpArgs false
/- short -/
namespace Go.Proofs.Ythbcdffldcdfoaa
open Go Lg

end Go.Proofs.Ythbcdffldcdfoaa
/- Walks: rows of numbers of one's own. -/
set_option linter.unusedVariables false
set_option linter.unusedSimpArgs false
/- short -/
namespace Go.Proofs.Ythbcdffldcdfoaa
open Go Lg

theorem Lg.Parts.three {δ δ1 δ2 δ3 : List Ent} {x y z : Ent} (h : Del δ x δ1) (k : Del δ1 y δ2) (l : Del δ2 z δ3) : Parts δ [x, y, z] δ3 := h.perm.trans (List.Perm.cons _ (Parts.two k l))

theorem CloneI_does {I : Imm} {v : Value} {xs : List Int} (h : RInts I v xs) :
    Does Try.prog 44 [v] I [] (fun v I' δ' => ∃ ad' c', v = .slice ad' xs.length c' ∧ δ' = [.row (.slice ad' xs.length c') 3 1 xs.length (xs.map (Value.int .i64))]) := by
  obtain ⟨ad, c, xs, hc, hb, hat, hr⟩ := h
  refine Does.intro Try.func44 rfl Try.ntmps44 rfl fun w0 => ?_
  refine code_seq ?_
  refine code_region ?_
  refine op_v (v_assign rfl) rfl ?_
  refine ops_nil ?_
  refine post_next ?_
  refine code_seq ?_
  refine code_seq ?_
  refine code_region ?_
  refine op_v (v_move rfl) rfl ?_
  refine op_v (v_nilq Try.underlying28 rfl rfl rfl) rfl ?_
  refine ops_nil ?_
  refine post_next ?_
  refine code_cond rfl (fun hc0 => ?_) (fun hc0 => ?_)
  · have had : ad = none := by simpa using hc0
    subst had
    have hn0 : xs = [] := by
      rcases xs with _ | ⟨x, r⟩
      · rfl
      · exact absurd (hat 0 (.int .i64 x) rfl) (by simp [Imm.cellO])
    subst hn0
    refine code_seq ?_
    refine code_region ?_
    refine op_v (v_assign rfl) rfl ?_
    refine ops_nil ?_
    refine post_next ?_
    refine code_ret ?_
    refine post_ret_then ?_
    refine PostJ.view (View.nilRow 3 1) (post_ret (rs := [.tmp 2]) rfl (List.Perm.refl _) (.cons (.tmp rfl) .nil) (List.Sublist.refl _) ⟨none, 0, rfl, rfl⟩)
  · refine code_skip ?_
    refine post_next ?_
    refine code_seq ?_
    refine code_region ?_
    refine o_buildSlice (xs := []) Try.underlying28 bs3 rfl rfl rfl rfl rfl (fun b5 => ?_)
    refine op_v (v_move rfl) rfl ?_
    refine o_append Try.underlying28 bs3 rfl rfl rfl (fun v' => by repeat (first | exact Swap.here | apply Swap.there)) (Src.ofI hat) (by simp) (by intro u hu; obtain ⟨x, _, rfl⟩ := List.mem_map.1 hu; rfl) (by omega) (by omega) (fun a7 c7 => ?_)
    refine op_v (v_assign rfl) rfl ?_
    refine ops_nil ?_
    refine post_next ?_
    refine code_ret ?_
    refine post_ret (rs := [.tmp 2]) rfl (List.Perm.refl _) (.cons (.tmp rfl) .nil) (List.Sublist.refl _) ?_
    refine ⟨a7, c7, ?_, ?_⟩
    · simp [outV]
    · simp [cat]

theorem RInts.of {I : Imm} {ad : Option Addr} {n c : Nat} {xs : List Int} (hn : n = xs.length) (hc : n ≤ c) (hb : n ≤ 17592186044416) (hat : Cells I ad (xs.map (Value.int .i64))) (hr : ∀ x ∈ xs, InR x) : RInts I (.slice ad n c) xs := by
  subst hn
  exact ⟨ad, c, xs, hc, hb, hat, hr⟩
theorem RInts.len {I : Imm} {v : Value} {xs : List Int} (h : RInts I v xs) : xs.length ≤ 17592186044416 ∧ ∀ x ∈ xs, InR x := by
  obtain ⟨ad, c, xs, hc, hb, hat, hr⟩ := h
  exact ⟨hb, hr⟩

theorem RInts.shape {I : Imm} {v : Value} {xs : List Int} (h : RInts I v xs) : ∃ ad c, v = .slice ad xs.length c := by
  obtain ⟨ad, c, xs, _, _, _, _⟩ := h
  exact ⟨ad, c, rfl⟩

/-- rows of rows of numbers -/
def RowP (I : Imm) (xs : List Value) (ps : List (List Int)) : Prop := xs.length = ps.length ∧ ∀ i (h : i < ps.length), ∃ v, xs[i]? = some v ∧ RInts I v ps[i]
theorem RowP.nil (I : Imm) : RowP I [] [] := ⟨rfl, fun i h => by simp at h⟩
theorem RowP.mono {I J : Imm} {xs : List Value} {ps : List (List Int)} (h : RowP I xs ps) (hl : I.le J) : RowP J xs ps :=
  ⟨h.1, fun i hi => let ⟨v, h1, h2⟩ := h.2 i hi; ⟨v, h1, h2.mono hl⟩⟩
theorem RowP.snoc {I : Imm} {xs : List Value} {ps : List (List Int)} {v : Value} {p : List Int} (h : RowP I xs ps) (k : RInts I v p) : RowP I (xs ++ [v]) (ps ++ [p]) := by
  refine ⟨by simp [h.1], fun i hi => ?_⟩
  by_cases hlt : i < ps.length
  · obtain ⟨u, h1, h2⟩ := h.2 i hlt
    rw [List.getElem_append_left hlt]
    exact ⟨u, by rw [List.getElem?_append_left (by rw [h.1]; exact hlt)]; exact h1, h2⟩
  · have hi' : i = ps.length := by simp at hi; omega
    subst hi'
    have e : (ps ++ [p])[ps.length] = p := by simp
    rw [e]
    exact ⟨v, by rw [← h.1]; simp, k⟩
theorem RowP.one {I : Imm} {xs : List Value} {ps : List (List Int)} (h : RowP I xs ps) : ∀ u ∈ xs, u.oneCell' = true := by
  intro u hu
  obtain ⟨i, hi, rfl⟩ := List.getElem_of_mem hu
  obtain ⟨v, h1, h2⟩ := h.2 i (by rw [← h.1]; exact hi)
  rw [List.getElem?_eq_getElem hi] at h1
  have e : xs[i] = v := by simpa using h1
  show xs[i].oneCell' = true
  rw [e]
  generalize ps[i]'(by rw [← h.1]; exact hi) = p at h2
  obtain ⟨ad, c, xs, _, _, _, _⟩ := h2
  rfl
inductive RPs (I : Imm) : Value → List (List Int) → Prop
  | mk (ad : Option Addr) (c : Nat) (xs : List Value) (ps : List (List Int)) (hc : ps.length ≤ c) (hb : ps.length ≤ 4398046511104) (hat : Cells I ad xs) (hr : RowP I xs ps) : RPs I (.slice ad ps.length c) ps
theorem RPs.of {I : Imm} {ad : Option Addr} {n c : Nat} {xs : List Value} {ps : List (List Int)} (hn : n = ps.length) (hc : n ≤ c) (hb : n ≤ 4398046511104) (hat : Cells I ad xs) (hr : RowP I xs ps) : RPs I (.slice ad n c) ps := by
  subst hn
  exact ⟨ad, c, xs, ps, hc, hb, hat, hr⟩
theorem RPs.mono {I J : Imm} {v : Value} {ps : List (List Int)} (h : RPs I v ps) (hl : I.le J) : RPs J v ps := by
  obtain ⟨ad, c, xs, ps, hc, hb, hat, hr⟩ := h
  exact ⟨ad, c, xs, ps, hc, hb, hat.mono hl, hr.mono hl⟩
theorem RPs.get {I : Imm} {ad : Option Addr} {xs : List Value} {ps : List (List Int)} (hat : Cells I ad xs) (hr : RowP I xs ps) (i : Nat) (h : i < ps.length) :
    ∃ (ed : Option Addr) (ec : Nat), At I ad (i * 1) [.slice ed ps[i].length ec] ∧ RInts I (.slice ed ps[i].length ec) ps[i] := by
  obtain ⟨v, h1, h2⟩ := hr.2 i h
  generalize he : ps[i] = p at h2
  obtain ⟨ad', c, p, _, _, _, _⟩ := h2
  refine ⟨ad', c, hat.at _ fun j u hj => ?_, ⟨ad', c, p, ‹_›, ‹_›, ‹_›, ‹_›⟩⟩
  rcases j with _ | j
  · simp at hj; subst hj; simpa using h1
  · simp at hj
end Go.Proofs.Ythbcdffldcdfoaa
/- Walks: all places of a term. -/
set_option linter.unusedVariables false
set_option linter.unusedSimpArgs false
/- short -/
namespace Go.Proofs.Ythbcdffldcdfoaa
open Go Lg

mutual
def allT : T → List (List Int)
  | .mk _ ts => [] :: allL 0 ts
def allL : Nat → List T → List (List Int)
  | _, [] => []
  | i, t :: r => (allT t).map ((i : Int) :: ·) ++ allL (i + 1) r
end
mutual
theorem allT_length : ∀ t : T, (allT t).length = t.size
  | .mk h ts => by simp [allT, T.size, allL_length 0 ts]; omega
theorem allL_length : ∀ (i : Nat) (ts : List T), (allL i ts).length = sizeL ts
  | _, [] => rfl
  | i, t :: r => by simp [allL, sizeL, allT_length t, allL_length (i + 1) r]
end
mutual
theorem allT_deep : ∀ (t : T) (p : List Int), p ∈ allT t → p.length + 1 ≤ t.size
  | .mk h ts, p, hp => by
    simp only [allT, List.mem_cons] at hp
    rcases hp with rfl | hp
    · simp [T.size]
    · have := allL_deep 0 ts p hp; simp [T.size]; omega
theorem allL_deep : ∀ (i : Nat) (ts : List T) (p : List Int), p ∈ allL i ts → p.length ≤ sizeL ts
  | _, [], p, hp => by simp [allL] at hp
  | i, t :: r, p, hp => by
    simp only [allL, List.mem_append, List.mem_map] at hp
    rcases hp with ⟨q, hq, rfl⟩ | hp
    · have := allT_deep t q hq; simp [sizeL]; omega
    · have := allL_deep (i + 1) r p hp; simp [sizeL]; omega
end
theorem allL_drop (ts : List T) (k : Nat) (h : k < ts.length) : allL k (ts.drop k) = (allT ts[k]).map ((k : Int) :: ·) ++ allL (k + 1) (ts.drop (k + 1)) := by
  rw [List.drop_eq_getElem_cons h]; simp [allL]

end Go.Proofs.Ythbcdffldcdfoaa
/- Walks: all places of a term, by the program. -/
set_option linter.unusedVariables false
set_option linter.unusedSimpArgs false
/- short -/
namespace Go.Proofs.Ythbcdffldcdfoaa
open Go Lg

end Go.Proofs.Ythbcdffldcdfoaa
/- Walks: another part put at a place, by definition. -/
set_option linter.unusedVariables false
set_option linter.unusedSimpArgs false
/- short -/
namespace Go.Proofs.Ythbcdffldcdfoaa
open Go Lg

/-- another part at a place that is there -/
def putT : T → List Int → T → T
  | _, [], u => u
  | t, x :: r, u => .mk t.head (t.args.set x.toNat (putT (t.args.getD x.toNat zeroT) r u))

theorem atT_cons {t : T} {x : Int} {r : List Int} (h : (atT t (x :: r)).isSome = true) : ∃ i : Nat, x = i ∧ ∃ hi : i < t.args.length, (atT t.args[i] r).isSome = true := by
  unfold atT at h
  by_cases hh : 0 ≤ x ∧ x.toNat < t.args.length
  · rw [dif_pos hh] at h
    obtain ⟨i, rfl⟩ := Int.eq_ofNat_of_zero_le hh.1
    exact ⟨i, rfl, hh.2, h⟩
  · rw [dif_neg hh] at h; cases h

def PutR (t : T) (p : List Int) (u : T) (v : Value) (I : Imm) : Prop :=
  ∃ x, v = .tuple #[x, .int .i64 (if (atT t p).isSome then 0 else 6)] ∧ RepT I x (if (atT t p).isSome then putT t p u else zeroT)

end Go.Proofs.Ythbcdffldcdfoaa
/- Walks: another part put at a place, by the program. -/
set_option linter.unusedVariables false
set_option linter.unusedSimpArgs false
namespace Go.Proofs.Ythbcdffldcdfoaa
open Go Lg

/-! ### rows and boxes -/
theorem Lg.OpsJ.freezeBox {C : Ctx} {Q : Exit → Act → World → Prop} {σ : Env} {ds : List Nat} {I : Imm} {δ δ' : List Ent} {ops : Array Oper} {rest : List Oper} {b : Nat} {e : TypeId} {cs : List Value} (hd : Del δ (.box b e cs) δ')
    (h : ∀ I', I.le I' → I' b = some (.cells cs.toArray e (0, 0)) → OpsJ C ops Q rest σ ds I' δ') : OpsJ C ops Q rest σ ds I δ := by
  intro a w he hs ht
  have h1 := hs.perm hd.perm
  have t1 := ht.permR hd.perm
  obtain ⟨s2, t2, hle⟩ := h1.freeze (b := b) rfl (h1.ents _ (List.mem_cons_self ..))
  exact h _ hle (by simp [Imm.ins]) a w he s2 (t1.trans t2)
theorem Lg.OpsJ.rowBox {C : Ctx} {Q : Exit → Act → World → Prop} {σ : Env} {ds : List Nat} {I : Imm} {δ δ' : List Ent} {ops : Array Oper} {rest : List Oper} {v : Value} {e : TypeId} {size n : Nat} {xs : List Value} (hd : Del δ (.row v e size n xs) δ') (hn : 0 < n)
    (h : ∀ g cap cs, v = .slice (some ⟨g, 0, none⟩) n cap → n ≤ cap → xs.length = n * size → cs.take (n * size) = xs → OpsJ C ops Q rest σ ds I (.box g e cs :: δ')) : OpsJ C ops Q rest σ ds I δ := by
  intro a w he hs ht
  have h1 := hs.perm hd.perm
  have t1 := ht.permR hd.perm
  obtain ⟨hl, hx⟩ : w.ownsRow 0 e size v n xs := h1.ents _ (List.mem_cons_self ..)
  rcases hx with ⟨rfl, rfl⟩ | ⟨g, cap, cur, rfl, _, hh, hnc, _, hcs, htk⟩
  · omega
  · have hb : blks (.row (.slice (some ⟨g, 0, none⟩) n cap) e size n xs :: δ') = blks (.box g e cur.toList :: δ') := rfl
    refine h g cap cur.toList rfl hnc hl htk a w he ⟨h1.imm, fun y hy => ?_, hb ▸ h1.nodup, hb ▸ h1.apart⟩ ⟨t1.os, t1.tape, t1.output, t1.size, t1.same, t1.imm, t1.freshI, hb ▸ t1.freshD⟩
    rcases List.mem_cons.1 hy with rfl | hy
    · simpa [Ent.holds] using hh
    · exact h1.ents y (List.mem_cons_of_mem _ hy)

theorem stL_one {cs : List Value} {o : Nat} {x v : Value} (h : cs[o]? = some x) : stL cs o [v] = some (cs.set o v) := by
  induction cs generalizing o with
  | nil => simp at h
  | cons c cs ih =>
    cases o with
    | zero => cases cs <;> simp [stL]
    | succ o => simp at h; simp [stL, ih h]
theorem stL_two {cs : List Value} {o : Nat} {x y u v : Value} (h : cs[o]? = some x) (k : cs[o + 1]? = some y) : stL cs o [u, v] = some ((cs.set o u).set (o + 1) v) := by
  induction cs generalizing o with
  | nil => simp at h
  | cons c cs ih =>
    cases o with
    | zero =>
      cases cs with
      | nil => simp at k
      | cons c2 cs => cases cs <;> simp [stL]
    | succ o => simp at h k; simp [stL, ih h k]
theorem ld_one {cs : List Value} {o : Nat} {x : Value} (h : cs[o]? = some x) : ld false 1 (cs.drop o) = some x := by
  obtain ⟨hl, rfl⟩ := List.getElem?_eq_some_iff.1 h
  rw [List.drop_eq_getElem_cons hl]; rfl

/-! ### places, from behind -/
theorem atT_c (t : T) (x : Int) (r : List Int) : atT t (x :: r) = if h : 0 ≤ x ∧ x.toNat < t.args.length then atT (t.args[x.toNat]'h.2) r else none := by simp only [atT]
theorem atT_app : ∀ (p q : List Int) (t : T), atT t (p ++ q) = (atT t p).bind (atT · q)
  | [], q, t => by simp [atT]
  | x :: p, q, t => by
    rw [List.cons_append, atT_c, atT_c]
    by_cases hh : 0 ≤ x ∧ x.toNat < t.args.length
    · rw [dif_pos hh, dif_pos hh, atT_app p q]
    · rw [dif_neg hh, dif_neg hh]; rfl
theorem atT_one {t : T} {i : Nat} (h : i < t.args.length) : atT t [(i : Int)] = some t.args[i] := by
  simp [atT, h]
theorem putT_snoc : ∀ (q : List Int) (t u w : T) (i : Nat), atT t q = some u → i < u.args.length → putT t (q ++ [(i : Int)]) w = putT t q (.mk u.head (u.args.set i w))
  | [], t, u, w, i, h, hi => by
    simp [atT] at h; subst h
    simp [putT]
  | x :: q, t, u, w, i, h, hi => by
    rw [List.cons_append]
    have h' : (atT t (x :: q)).isSome = true := by rw [h]; rfl
    obtain ⟨j, rfl, hj, _⟩ := atT_cons h'
    simp only [atT, Int.toNat_natCast] at h
    rw [dif_pos ⟨by omega, hj⟩] at h
    simp only [putT, Int.toNat_natCast]
    have e : t.args.getD j zeroT = t.args[j] := by simp [hj]
    rw [e, putT_snoc q _ u w i h hi]

/-- What is to be put into the cells at (b, off) stands at q. -/
def Hole (t : T) (q : List Int) (b0 b off : Nat) (cs : List Value) (I : Imm) : Prop :=
  ∀ (J : Imm) (w : T) (wd : Option Addr) (wc : Nat), I.le J → J b = some (.cells ((cs.set off (.int .i64 w.head)).set (off + 1) (.slice wd w.args.length wc)).toArray 108 (0, 0)) → RepT J (.agg #[.int .i64 w.head, .slice wd w.args.length wc]) w →
    ∃ v0 v1, J b0 = some (.cells #[v0, v1] 108 (0, 0)) ∧ RepT J (.agg #[v0, v1]) (putT t q w)
theorem Hole.mono {t : T} {q : List Int} {b0 b off : Nat} {cs : List Value} {I J : Imm} (h : Hole t q b0 b off cs I) (hl : I.le J) : Hole t q b0 b off cs J :=
  fun K w wd wc hk hb hr => h K w wd wc (Imm.le_trans hl hk) hb hr
theorem Hole.start {t : T} {b : Nat} {x y : Value} {I : Imm} : Hole t [] b b 0 [x, y] I :=
  fun J w wd wc _ hb hr => ⟨_, _, hb, by simpa [putT] using hr⟩

theorem RowT.set {I : Imm} {xs : List Value} {ts : List T} {w : T} {wd : Option Addr} {wc i : Nat} (h : RowT I xs ts) (hr : RepT I (.agg #[.int .i64 w.head, .slice wd w.args.length wc]) w) (hi : i < ts.length) :
    RowT I ((xs.set (i * 2) (.int .i64 w.head)).set (i * 2 + 1) (.slice wd w.args.length wc)) (ts.set i w) := by
  refine ⟨by simp [h.1], fun j hj => ?_⟩
  have hj' : j < ts.length := by simpa using hj
  obtain ⟨s, h1, h2, h3⟩ := h.2 j hj'
  by_cases e : i = j
  · subst e
    have e1 : (ts.set i w)[i] = w := by simp
    rw [e1]
    exact ⟨(wd, wc), by rw [List.getElem?_set_ne (by omega), List.getElem?_set_self (by rw [h.1]; omega)], by rw [List.getElem?_set_self (by simp [h.1]; omega)], hr⟩
  · have e1 : (ts.set i w)[j] = ts[j] := by simp [List.getElem_set_ne e]
    rw [e1]
    exact ⟨s, by rw [List.getElem?_set_ne (by omega), List.getElem?_set_ne (by omega)]; exact h1, by rw [List.getElem?_set_ne (by omega), List.getElem?_set_ne (by omega)]; exact h2, h3⟩

theorem cells_of {J : Imm} {g : Nat} {e : TypeId} {cs : List Value} (h : J g = some (.cells cs.toArray e (0, 0))) (n : Nat) : Cells J (some ⟨g, 0, none⟩) (cs.take n) := fun j v hj => by
  have hadd : (⟨g, 0, none⟩ : Addr).add j = ⟨g, j, none⟩ := by rw [add_plain]; simp
  simp only [Option.map_some, Imm.cellO, Imm.cell, hadd, h]
  rw [List.getElem?_take] at hj
  split at hj
  · simpa using hj
  · cases hj

theorem Hole.step {t u : T} {q : List Int} {b0 b off g n cap i : Nat} {cs cs3 xs : List Value} {I J : Imm} (h : Hole t q b0 b off cs I) (hl : I.le J) (hat : atT t q = some u) (hn : u.args.length = n)
    (hb : J b = some (.cells (cs.set (off + 1) (.slice (some ⟨g, 0, none⟩) n cap)).toArray 108 (0, 0))) (hc0 : cs[off]? = some (.int .i64 u.head)) (hr : InR u.head) (hnc : n ≤ cap) (hnb : n ≤ 4398046511104)
    (htk : cs3.take (n * 2) = xs) (hrow : RowT J xs u.args) (hi : i < n) : Hole t (q ++ [(i : Int)]) b0 g (i * 2) cs3 J := by
  intro K w wd wc hk hg hw
  have hset : cs.set off (.int .i64 u.head) = cs := by
    obtain ⟨hlt, he⟩ := List.getElem?_eq_some_iff.1 hc0
    rw [← he, List.set_getElem_self]
  have hcells := cells_of hg (n * 2)
  rw [List.take_set, List.take_set, htk] at hcells
  have hrow' := (hrow.mono hk).set hw (i := i) (by omega)
  have hlen : (T.mk u.head (u.args.set i w)).args.length = n := by
    show (u.args.set i w).length = n
    simp [hn]
  obtain ⟨v0, v1, h1, h2⟩ := h K (.mk u.head (u.args.set i w)) (some ⟨g, 0, none⟩) cap (Imm.le_trans hl hk) (by
    rw [hlen]
    show K b = some (.cells ((cs.set off (.int .i64 u.head)).set (off + 1) _).toArray _ _)
    rw [hset]
    exact hk _ _ hb) (RowT.rep (h := u.head) (c := cap) (ts := u.args.set i w) hcells hrow' hr (by simp [hn]; exact hnc) (by simp [hn]; exact hnb))
  refine ⟨v0, v1, h1, ?_⟩
  rw [putT_snoc q t u w i hat (by omega)]
  exact h2
end Go.Proofs.Ythbcdffldcdfoaa
/- Walks: another part put at a place, by the program. -/
set_option linter.unusedVariables false
set_option linter.unusedSimpArgs false
/- short -/
namespace Go.Proofs.Ythbcdffldcdfoaa
open Go Lg

end Go.Proofs.Ythbcdffldcdfoaa
/- Walks: the document's example on places. -/
set_option linter.unusedVariables false
set_option linter.unusedSimpArgs false
/- short -/
namespace Go.Proofs.Ythbcdffldcdfoaa
open Go Lg

theorem RowT.repS {I : Imm} {ad : Option Addr} {n c : Nat} {xs : List Value} {ts : List T} (hn : n = ts.length) (hc : Cells I ad xs) (hr : RowT I xs ts) (hle : n ≤ c) (hb : n ≤ 4398046511104) : RepS I (.slice ad n c) ts := by
  subst hn
  exact RepT.args (RowT.rep (h := 0) hc hr (by unfold InR; omega) hle hb)
theorem RInts.lit {I : Imm} {ad : Option Addr} {n c : Nat} {xs : List Int} (hat : Cells I ad (xs.map (Value.int .i64))) (hc : n ≤ c) (hr : xs.all (fun x => decide (0 ≤ x ∧ x ≤ 1000)) = true) (hn : n = xs.length := by rfl) (hb : n ≤ 17592186044416 := by decide) : RInts I (.slice ad n c) xs :=
  RInts.of hn hc hb hat (fun x hx => by have := List.all_eq_true.1 hr x hx; simp at this; unfold InR; omega)

def tA : T := .mk 4 [.mk 1 [], .mk 3 [.mk 2 []]]
end Go.Proofs.Ythbcdffldcdfoaa
/- Walk: the statement on places under others. -/
set_option linter.unusedVariables false
set_option linter.unusedSimpArgs false
/- short -/
namespace Go.Proofs.Ythbcdffldcdfoaa
open Go Lg

theorem Ints_is {I : Imm} {va vb : Value} {xs ys : List Int} {a : Bool} (ha : RInts I va xs) (hb : RInts I vb ys) (h : decide (xs = ys) = a) :
    Does Try.prog 51 [va, vb] I [] (fun v I' δ' => v = .bool a ∧ δ' = []) := by subst h; exact Ints_does I ha hb

theorem under_trans {p q o : List Int} (h : underL p q = true) (k : underL q o = true) : underL p o = true := by
  simp only [underL, decide_eq_true_eq] at *
  refine ⟨by omega, ?_⟩
  obtain ⟨h1, h2⟩ := h
  obtain ⟨k1, k2⟩ := k
  rw [k2, List.take_take, Nat.min_eq_left h1] at h2
  exact h2
theorem under_both {p q : List Int} (h : underL p q = true) (k : underL q p = true) : p = q := by
  simp only [underL, decide_eq_true_eq] at *
  have hl : p.length = q.length := by omega
  have := h.2
  rw [hl, List.take_length] at this
  exact this

end Go.Proofs.Ythbcdffldcdfoaa
/- What a row's reading of its arguments says of the heap; plain facts, no condition. -/
set_option linter.unusedVariables false
set_option linter.unusedSimpArgs false
namespace Go.Proofs.Ythbcdffldcdfoaa
open Go Lg Go.ChangeShapes Go.WideShapes Go.ChangeAt Go.RowKit

/-- the whole heap, as what is only read -/
def hImm (w : World) : Imm := fun b => w.heap[b]?
theorem hSat (w : World) : Sat w (hImm w) [] := ⟨fun _ _ h => h, fun x hx => by simp at hx, by simp [blks], fun b hb => by simp [blks] at hb⟩
theorem hCell (w : World) (a : Addr) : (hImm w).cell a = w.cell? a := rfl
theorem wf_in {n : Int} (h : (Lit.int .i64 n).wf = true) : InR n := by
  simp only [Lit.wf, Bool.and_eq_true, decide_eq_true_eq] at h
  have h1 : IntKind.i64.min = -9223372036854775808 := by decide
  have h2 : IntKind.i64.max = 9223372036854775807 := by decide
  unfold InR; omega

variable {H : Type} {enc : TypeId × Value → H} {P : Program} {W : World} {spare : Nat → Bool} {held : Bool}

theorem weights_at {ts : List TypeId} {ds : List (DataW H)} (h : (DataW.weightsEach P ts ds).all (· ≤ reachBytes) = true) : ∀ (j : Nat) (t : TypeId) (d : DataW H), ts[j]? = some t → ds[j]? = some d → (d.weights P t).all (· ≤ reachBytes) = true := by
  induction ts generalizing ds with
  | nil => intro j t d ht; simp at ht
  | cons t0 ts ih =>
    cases ds with
    | nil => intro j t d _ hd; simp at hd
    | cons d0 ds =>
      simp only [DataW.weightsEach, List.all_append, Bool.and_eq_true] at h
      intro j t d ht hd
      cases j with
      | zero => simp at ht hd; subst ht; subst hd; exact h.1
      | succ j => exact ih h.2 j t d (by simpa using ht) (by simpa using hd)
theorem weights_all {e : TypeId} {ds : List (DataW H)} (h : (DataW.weightsAll P e ds).all (· ≤ reachBytes) = true) : ∀ d ∈ ds, (d.weights P e).all (· ≤ reachBytes) = true := by
  induction ds with
  | nil => intro d hd; cases hd
  | cons d0 ds ih =>
    simp only [DataW.weightsAll, List.all_append, Bool.and_eq_true] at h
    intro d hd
    rcases List.mem_cons.1 hd with rfl | hd
    · exact h.1
    · exact ih h.2 d hd

theorem openI {t e : TypeId} {a : Option Addr} {len cap : Nat} {d : DataW H} {ps : List MemPlace} (ht : P.underlying t = some (.slice e)) (he : P.underlying e = some (.int .i64)) (hc : P.cellsOf e = 1) (hB : P.bytesOf e = 8)
    (h : DataW.Trod enc P W 0 spare held t (.slice a len cap) d ps) (hw : (d.weights P t).all (· ≤ reachBytes) = true) : ∃ xs, RInts (hImm W) (.slice a len cap) xs := by
  obtain ⟨fuel, hf⟩ := h
  rcases open_ints ht he hc hf with ⟨hcs, _⟩ | ⟨x, l, c, zs, hcs, _, hl, hm, hz, hx, hcell, hwz⟩
  · simp [Value.cells] at hcs
    obtain ⟨rfl, rfl, rfl⟩ := hcs
    exact ⟨[], RInts.nil _⟩
  · simp [Value.cells] at hcs
    obtain ⟨rfl, rfl, rfl⟩ := hcs
    obtain ⟨hx, _⟩ := Prod.mk.inj hx
    subst hx
    have hzl : len ≤ zs.length := by rw [hz]; split <;> omega
    have hlen : (zs.take len).length = len := by rw [List.length_take]; omega
    simp only [DataW.weights, ht, hB, List.all_cons, Bool.and_eq_true, decide_eq_true_eq] at hw
    have hb : len * 8 ≤ reachBytes := by
      refine Nat.le_trans ?_ hw.1
      simp [lits]; omega
    have hrb : reachBytes = 140737488351232 := rfl
    refine ⟨zs.take len, RInts.of hlen.symm hl (by omega) (fun j v hj => ?_) (fun y hy => wf_in (hwz y (List.mem_of_mem_take hy)))⟩
    have hjl : j < len := by have := (List.getElem?_eq_some_iff.1 hj).1; simp at this; omega
    have hc := hcell j (by omega)
    rw [List.map_take, List.getElem?_take_of_lt hjl] at hj
    have e : v = .int .i64 (zs.getD j 0) := by
      have hjz : j < zs.length := by omega
      simp [hjz] at hj
      simp [hjz, hj]
    subst e
    exact hc

theorem pick_list {α : Type} {n : Nat} {p : Nat → α → Prop} (h : ∀ i, i < n → ∃ a, p i a) : ∃ l : List α, l.length = n ∧ ∀ i (hi : i < l.length), p i l[i] := by
  induction n with
  | zero => exact ⟨[], rfl, fun i hi => by simp at hi⟩
  | succ n ih =>
    obtain ⟨l, h1, h2⟩ := ih fun i hi => h i (by omega)
    obtain ⟨a, ha⟩ := h n (by omega)
    refine ⟨l ++ [a], by simp [h1], fun i hi => ?_⟩
    by_cases hlt : i < l.length
    · rw [List.getElem_append_left hlt]; exact h2 i hlt
    · have e : i = l.length := by simp at hi; omega
      subst e
      simp [h1, ha]

theorem cells_two {a : Addr} {cs : List Value} (h : W.cells? 0 a 2 = some cs) : ∃ u v, cs = [u, v] ∧ W.cell? a = some u ∧ W.cell? (a.add 1) = some v := by
  simp only [World.cells?, Nat.zero_le, if_true] at h
  have hr : List.range 2 = [0, 1] := rfl
  rw [hr] at h
  simp only [List.mapM_cons, List.mapM_nil, Option.bind_eq_bind, Option.bind_eq_some_iff, Option.pure_def, Option.some.injEq] at h
  obtain ⟨u, hu, r, ⟨v, hv, r2, rfl, rfl⟩, rfl⟩ := h
  have ha : a.add 0 = a := by simp [Addr.add]
  rw [ha] at hu
  exact ⟨u, v, rfl, hu, hv⟩

/-- a struct of a number and a row of its own kind -/
structure TreeTy (P : Program) (tT tS tI : TypeId) : Prop where
  str : ∃ fs : Array Field, P.underlying tT = some (.struct fs) ∧ fs.size = 2 ∧ (∃ f0 f1 : Field, fs[0]? = some f0 ∧ fs[1]? = some f1 ∧ f0.type = tI ∧ f0.offset = 0 ∧ f1.type = tS ∧ f1.offset = 1 ∧ fs.toList.map (·.type) = [tI, tS])
  sl : P.underlying tS = some (.slice tT)
  int : P.underlying tI = some (.int .i64)
  cT : P.cellsOf tT = 2
  cS : P.cellsOf tS = 1
  cI : P.cellsOf tI = 1
  bT : P.bytesOf tT = 32

theorem openT {tT tS tI : TypeId} (ty : TreeTy P tT tS tI) : ∀ (fuel : Nat) (cs : List Value) (d : DataW H) (ps : List MemPlace), DataW.trod enc P W 0 spare held fuel tT cs = some (d, ps) → (d.weights P tT).all (· ≤ reachBytes) = true →
    ∃ (s : Value) (t : T), cs = [.int .i64 t.head, s] ∧ RepT (hImm W) (.agg #[.int .i64 t.head, s]) t := by
  intro fuel
  induction fuel using Nat.strongRecOn with
  | _ fuel ih =>
    intro cs d ps h hw
    obtain ⟨fs, hfs, hsz, f0, f1, hf0, hf1, ht0, ho0, ht1, ho1, hts⟩ := ty.str
    obtain ⟨xs, n, rfl, hx, hcl, hxl, hxs⟩ := DataW.trod_struct hfs h
    rw [ty.cT] at hcl
    obtain ⟨u, v, rfl⟩ : ∃ u v, cs = [u, v] := by
      rcases cs with _ | ⟨u, _ | ⟨v, _ | ⟨_, _⟩⟩⟩
      · simp at hcl
      · simp at hcl
      · exact ⟨u, v, rfl⟩
      · simp at hcl
    have h0 := hxs 0 f0 hf0
    have h1 := hxs 1 f1 hf1
    rw [ht0, ho0, ty.cI] at h0
    rw [ht1, ho1, ty.cS] at h1
    simp only [List.drop_zero, List.drop_succ_cons, List.take_succ_cons, List.take_zero] at h0 h1
    rw [hsz] at hxl
    obtain ⟨x0, x1, rfl⟩ : ∃ x0 x1, xs = [x0, x1] := by
      rcases xs with _ | ⟨u, _ | ⟨v, _ | ⟨_, _⟩⟩⟩
      · simp at hxl
      · simp at hxl
      · exact ⟨u, v, rfl⟩
      · simp at hxl
    simp only [List.getElem?_cons_zero, List.getElem?_cons_succ] at h0 h1
    obtain ⟨m, hm, _, hwf⟩ := DataW.trod_int ty.int h0
    simp only [List.cons.injEq, and_true] at hm
    subst hm
    simp only [Prod.mk.injEq] at hx
    obtain ⟨rfl, _⟩ := hx
    simp only [DataW.weights, hfs, hts, List.map_cons, List.map_nil, DataW.weightsEach, List.all_append, Bool.and_eq_true] at hw
    have hw1 := hw.2.1
    rcases DataW.trod_slice ty.sl h1 with ⟨hcs, _⟩ | ⟨a, len, cap, elems, rest, n', rfl, hcs, rfl, _, hl, hm, hlen, hel, hsp, _⟩
    · simp only [List.cons.injEq, and_true] at hcs
      subst hcs
      exact ⟨_, .mk m [], rfl, RepT.mk _ (.mk m []) (wf_in hwf) (RepS.nil _)⟩
    · simp only [List.cons.injEq, and_true] at hcs
      subst hcs
      simp only [DataW.weights, ty.sl, ty.bT, List.all_cons, List.all_append, Bool.and_eq_true, decide_eq_true_eq] at hw1
      obtain ⟨hwl, hwe, _⟩ := hw1
      have hwe' := weights_all hwe
      have hrb : reachBytes = 140737488351232 := rfl
      simp only [List.length_map, hlen] at hwl
      have hall : ∀ i, i < len → ∃ t : T, ∃ s : Option Addr × Nat, At (hImm W) (some a) (i * 2) [.int .i64 t.head, .slice s.1 t.args.length s.2] ∧ RepT (hImm W) (.agg #[.int .i64 t.head, .slice s.1 t.args.length s.2]) t := by
        intro i hi
        have hy := hel i hi
        rw [ty.cT] at hy
        have hie : elems[i]? = some elems[i] := List.getElem?_eq_getElem (by omega)
        rw [hie, Option.bind_eq_some_iff] at hy
        obtain ⟨cs, hcs, htr⟩ := hy
        obtain ⟨u, v, rfl, hu, hv⟩ := cells_two hcs
        obtain ⟨s, t, he, hr⟩ := ih n' (by omega) _ elems[i].1 elems[i].2 htr (hwe' _ (List.mem_map.2 ⟨_, List.getElem_mem (by omega), rfl⟩))
        obtain ⟨sa, sc, hsh, _⟩ := hr.shape
        have hs : s = .slice sa t.args.length sc := by simpa using hsh
        subst hs
        simp only [List.cons.injEq, and_true] at he
        obtain ⟨rfl, rfl⟩ := he
        refine ⟨t, (sa, sc), fun j x hj => ?_, hr⟩
        rcases j with _ | _ | j
        · simp at hj; subst hj; exact hu
        · simp at hj; subst hj
          show W.cell? (a.add (i * 2 + 1)) = _
          rw [← add_add]; exact hv
        · simp at hj
      obtain ⟨ts, htl, hts2⟩ := pick_list hall
      have hss : ∃ ss : Nat → Option Addr × Nat, ∀ i (hi : i < ts.length), At (hImm W) (some a) (i * 2) [.int .i64 ts[i].head, .slice (ss i).1 ts[i].args.length (ss i).2] ∧ RepT (hImm W) (.agg #[.int .i64 ts[i].head, .slice (ss i).1 ts[i].args.length (ss i).2]) ts[i] := by
        classical
        exact ⟨fun i => if hi : i < ts.length then (hts2 i hi).choose else (none, 0), fun i hi => by simp only [dif_pos hi]; exact (hts2 i hi).choose_spec⟩
      obtain ⟨ss, hss⟩ := hss
      subst htl
      exact ⟨_, .mk m ts, rfl, RepT.intro ss (wf_in hwf) hl (by omega) (fun i hi => (hss i hi).1) (fun i hi => (hss i hi).2)⟩

theorem openTv {tT tS tI : TypeId} (ty : TreeTy P tT tS tI) {v : Value} {d : DataW H} {ps : List MemPlace} (h : DataW.Trod enc P W 0 spare held tT v d ps) (hw : (d.weights P tT).all (· ≤ reachBytes) = true) (hv : ∃ cs, v = .agg cs ∧ cs.size = P.cellsOf tT) : ∃ t, RepT (hImm W) v t := by
  obtain ⟨fuel, hf⟩ := h
  obtain ⟨s, t, hc, hr⟩ := openT ty fuel _ d ps hf hw
  obtain ⟨cs, rfl, _⟩ := hv
  have e : cs = #[.int .i64 t.head, s] := by
    apply Array.ext'
    simpa [Value.cells] using hc
  subst e
  exact ⟨t, hr⟩
theorem tr_below {w w' : World} {I I' : Imm} {δ' : List Ent} (h : Tr w I [] w' I' δ') : Below w.heap.size w w' := ⟨h.os, h.tape, h.output, h.size, fun k hk => h.same k hk (by simp [blks])⟩
end Go.Proofs.Ythbcdffldcdfoaa
/- Plain facts on the parts of a term, with their depths. No condition. -/
set_option linter.unusedVariables false
set_option linter.unusedSimpArgs false
namespace Go.Proofs.Ythbcdffldcdfoaa
open Go Lg

mutual
def partsT : Nat → T → List (Nat × T)
  | d, .mk h ts => (d, .mk h ts) :: partsL (d + 1) ts
def partsL : Nat → List T → List (Nat × T)
  | _, [] => []
  | d, t :: r => partsT d t ++ partsL d r
end
mutual
theorem partsT_length : ∀ (d : Nat) (t : T), (partsT d t).length = t.size
  | d, .mk h ts => by simp [partsT, T.size, partsL_length (d + 1) ts]; omega
theorem partsL_length : ∀ (d : Nat) (ts : List T), (partsL d ts).length = sizeL ts
  | _, [] => rfl
  | d, t :: r => by simp [partsL, sizeL, partsT_length d t, partsL_length d r]
end
mutual
theorem partsT_deep : ∀ (d : Nat) (t : T) (x : Nat × T), x ∈ partsT d t → x.1 + x.2.size ≤ d + t.size
  | d, .mk h ts, x, hx => by
    simp only [partsT, List.mem_cons] at hx
    rcases hx with rfl | hx
    · simp
    · have := partsL_deep (d + 1) ts x hx; simp [T.size]; omega
theorem partsL_deep : ∀ (d : Nat) (ts : List T) (x : Nat × T), x ∈ partsL d ts → x.1 + x.2.size ≤ d + sizeL ts
  | _, [], x, hx => by simp [partsL] at hx
  | d, t :: r, x, hx => by
    simp only [partsL, List.mem_append] at hx
    rcases hx with hx | hx
    · have := partsT_deep d t x hx; simp [sizeL]; omega
    · have := partsL_deep d r x hx; simp [sizeL]; omega
end
/-- what a stack of terms still has to tell -/
def partsS (st : List (Nat × T)) : List (Nat × T) := st.reverse.flatMap fun x => partsT x.1 x.2
theorem partsS_snoc (st : List (Nat × T)) (x : Nat × T) : partsS (st ++ [x]) = partsT x.1 x.2 ++ partsS st := by simp [partsS]
theorem partsS_app (st us : List (Nat × T)) : partsS (st ++ us) = partsS us ++ partsS st := by simp [partsS]
theorem partsL_eq : ∀ (d : Nat) (ts : List T), partsL d ts = (ts.map fun t => (d, t)).flatMap fun x => partsT x.1 x.2
  | _, [] => rfl
  | d, t :: r => by simp [partsL, partsL_eq d r]
/-- the arguments, the last one first -/
def kids (d : Nat) (ts : List T) (l : List Nat) : List (Nat × T) := l.map fun i => (d, ts.getD i zeroT)
theorem map_range_getD (ts : List T) : (List.range ts.length).map (fun i => ts.getD i zeroT) = ts := by
  apply List.ext_getElem
  · simp
  · intro i h1 h2; simp at h1; simp [h1]
theorem partsS_kids (d : Nat) (ts : List T) : partsS (kids d ts (List.range ts.length).reverse) = partsL d ts := by
  rw [partsL_eq, partsS, kids, ← List.map_reverse, List.reverse_reverse]
  congr 1
  have : (fun i => (d, ts.getD i zeroT)) = (fun t => (d, t)) ∘ (fun i => ts.getD i zeroT) := rfl
  rw [this, ← List.map_map, map_range_getD]
theorem partsS_len (st : List (Nat × T)) : st.length ≤ (partsS st).length := by
  have key : ∀ l : List (Nat × T), l.length ≤ (l.flatMap fun x => partsT x.1 x.2).length := fun l => by
    induction l with
    | nil => simp
    | cons x r ih => have := x.2.size_pos; simp [partsT_length] at ih ⊢; omega
  have := key st.reverse
  simpa [partsS] using this
theorem range_rev (n k : Nat) (h : k < n) : (List.range n).reverse = (List.range n).reverse.take k ++ (n - 1 - k) :: (List.range n).reverse.drop (k + 1) := by
  have hl : k < (List.range n).reverse.length := by simpa using h
  have hk : (List.range n).reverse[k] = n - 1 - k := by simp [List.getElem_reverse]
  rw [← hk]
  have h1 := List.take_append_drop k (List.range n).reverse
  rw [List.drop_eq_getElem_cons hl] at h1
  exact h1.symm
theorem range_rev_take (n k : Nat) (h : k < n) : (List.range n).reverse.take (k + 1) = (List.range n).reverse.take k ++ [n - 1 - k] := by
  have hl : k < (List.range n).reverse.length := by simpa using h
  have hk : (List.range n).reverse[k] = n - 1 - k := by simp [List.getElem_reverse]
  rw [List.take_succ_eq_append_getElem hl, hk]

/-- cells of terms with their depths, one behind the other -/
def RowK (I : Imm) (xs : List Value) (st : List (Nat × T)) : Prop :=
  xs.length = st.length * 3 ∧ ∀ i (h : i < st.length), ∃ s : Option Addr × Nat, xs[i * 3]? = some (.int .i64 st[i].2.head) ∧ xs[i * 3 + 1]? = some (.slice s.1 st[i].2.args.length s.2) ∧ xs[i * 3 + 2]? = some (.int .i64 st[i].1) ∧
    RepT I (.agg #[.int .i64 st[i].2.head, .slice s.1 st[i].2.args.length s.2]) st[i].2
theorem RowK.mono {I J : Imm} {xs : List Value} {st : List (Nat × T)} (h : RowK I xs st) (hl : I.le J) : RowK J xs st :=
  ⟨h.1, fun i hi => let ⟨s, h1, h2, h3, h4⟩ := h.2 i hi; ⟨s, h1, h2, h3, h4.mono hl⟩⟩
theorem RowK.one {I : Imm} {d : Nat} {t : T} {a : Option Addr} {c : Nat} (h : RepT I (.agg #[.int .i64 t.head, .slice a t.args.length c]) t) : RowK I [.int .i64 t.head, .slice a t.args.length c, .int .i64 d] [(d, t)] :=
  ⟨rfl, fun i hi => by
    have : i = 0 := by simp at hi; omega
    subst this
    exact ⟨(a, c), rfl, rfl, rfl, h⟩⟩
theorem RowK.app {I : Imm} {xs ys : List Value} {ts us : List (Nat × T)} (h : RowK I xs ts) (k : RowK I ys us) : RowK I (xs ++ ys) (ts ++ us) := by
  refine ⟨by simp [h.1, k.1]; omega, fun i hi => ?_⟩
  by_cases hlt : i < ts.length
  · obtain ⟨s, h1, h2, h3, h4⟩ := h.2 i hlt
    have e : (ts ++ us)[i] = ts[i] := List.getElem_append_left hlt
    rw [e]
    exact ⟨s, by rw [List.getElem?_append_left (by rw [h.1]; omega)]; exact h1, by rw [List.getElem?_append_left (by rw [h.1]; omega)]; exact h2, by rw [List.getElem?_append_left (by rw [h.1]; omega)]; exact h3, h4⟩
  · have hi' : i - ts.length < us.length := by simp at hi; omega
    obtain ⟨s, h1, h2, h3, h4⟩ := k.2 (i - ts.length) hi'
    have e : (ts ++ us)[i] = us[i - ts.length] := List.getElem_append_right (by omega)
    rw [e]
    refine ⟨s, ?_, ?_, ?_, h4⟩
    · rw [List.getElem?_append_right (by rw [h.1]; omega), h.1, ← h1]; congr 1; omega
    · rw [List.getElem?_append_right (by rw [h.1]; omega), h.1, ← h2]; congr 1; omega
    · rw [List.getElem?_append_right (by rw [h.1]; omega), h.1, ← h3]; congr 1; omega
theorem RowK.take {I : Imm} {xs : List Value} {ts : List (Nat × T)} {x : Nat × T} (h : RowK I xs (ts ++ [x])) : RowK I (xs.take (ts.length * 3)) ts := by
  refine ⟨by rw [List.length_take, h.1]; simp only [List.length_append, List.length_cons, List.length_nil]; omega, fun i hi => ?_⟩
  obtain ⟨s, h1, h2, h3, h4⟩ := h.2 i (by simp; omega)
  have e : (ts ++ [x])[i]'(by simp; omega) = ts[i] := List.getElem_append_left hi
  rw [e] at h1 h2 h3 h4
  exact ⟨s, by rw [List.getElem?_take_of_lt (by omega)]; exact h1, by rw [List.getElem?_take_of_lt (by omega)]; exact h2, by rw [List.getElem?_take_of_lt (by omega)]; exact h3, h4⟩
theorem RowK.last {I : Imm} {xs : List Value} {ts : List (Nat × T)} {x : Nat × T} (h : RowK I xs (ts ++ [x])) :
    ∃ s : Option Addr × Nat, ld true 3 (xs.drop (ts.length * 3)) = some (.agg #[.int .i64 x.2.head, .slice s.1 x.2.args.length s.2, .int .i64 x.1]) ∧ RepT I (.agg #[.int .i64 x.2.head, .slice s.1 x.2.args.length s.2]) x.2 := by
  obtain ⟨s, h1, h2, h3, h4⟩ := h.2 ts.length (by simp)
  have e : (ts ++ [x])[ts.length]'(by simp) = x := by simp
  rw [e] at h1 h2 h3 h4
  refine ⟨s, ?_, h4⟩
  obtain ⟨l1, e1⟩ := List.getElem?_eq_some_iff.1 h1
  obtain ⟨l2, e2⟩ := List.getElem?_eq_some_iff.1 h2
  obtain ⟨l3, e3⟩ := List.getElem?_eq_some_iff.1 h3
  rw [List.drop_eq_getElem_cons l1, List.drop_eq_getElem_cons l2, List.drop_eq_getElem_cons l3, e1, e2, e3]
  rfl
end Go.Proofs.Ythbcdffldcdfoaa
/- The rules of the logic: pointers against nil, division, entries that are taken out of a map. No condition. -/
set_option linter.unusedVariables false
set_option linter.unusedSimpArgs false
namespace Go.Proofs.Ythbcdffldcdfoaa.Lg
open Go Go.RowKit

variable {C : Ctx} {Q : Exit → Act → World → Prop} {σ : Env} {ds : List Nat} {I : Imm} {δ : List Ent} {ops : Array Oper} {rest : List Oper}
variable {d : Nat} {ty : TypeId} {pos : String} {after : Array Edge}

theorem v_ptrq {op : BinOp} {t e : TypeId} {t' : TypeId} {x y : Operand} {p : Option Addr} {z : Bool} (ht : C.P.underlying t = some (.pointer e))
    (hx : evS σ x = some (.pointer p)) (hy : evS σ y = some (.pointer none)) (hz : cmpN op p = some z) : ValJ C σ ds I δ (.binOp op t x y t') (.bool z) :=
  v_bin hx hy (fun w => by unfold eqGuard; cases op <;> rfl) (fun w => by
    have hu : (underlying t).run C.P w = .ok (.pointer e) w := by simp [underlying, program, Sem.run, ht]
    have he : (Op.equal t (.pointer p) (.pointer none)).run C.P w = .ok p.isNone w := by
      show (Op.equalIn (9999 + 1) t (.pointer p) (.pointer none)).run C.P w = _
      rw [Op.equalIn]
      simp only [Sem.run_bind, hu, Result.andThen]
      cases p <;> rfl
    have h2 : ∀ f : Bool → Bool, (do pure (Value.bool (f (← Op.equal t (.pointer p) (.pointer none)))) : Sem Value).run C.P w = .ok (.bool (f p.isNone)) w := fun f => by simp only [Sem.run_bind, he, Result.andThen]; rfl
    cases op <;> simp only [cmpN, Option.some.injEq, reduceCtorEq] at hz
    · subst hz; exact h2 id
    · subst hz; have := h2 not; cases p <;> exact this)
theorem v_quob {t t' : TypeId} {x y : Operand} {a b c : Int} (hx : evS σ x = some (.int .i64 a)) (hy : evS σ y = some (.int .i64 b)) (hn : b ≠ 0) (hc : a.tdiv b = c) (hb : -9223372036854775808 ≤ c ∧ c ≤ 9223372036854775807) : ValJ C σ ds I δ (.binOp .quo t x y t') (.int .i64 c) :=
  v_bin hx hy (fun _ => guard_int ..) (fun w => by
    show (Op.intDiv .quo .i64 a b).run C.P w = _
    unfold Op.intDiv
    rw [if_neg hn]
    show Result.ok (Value.int .i64 (IntKind.i64.wrap (a.tdiv b))) w = _
    rw [hc, wrap_id hb])
theorem v_remb {t t' : TypeId} {x y : Operand} {a b c : Int} (hx : evS σ x = some (.int .i64 a)) (hy : evS σ y = some (.int .i64 b)) (hn : b ≠ 0) (hc : a.tmod b = c) : ValJ C σ ds I δ (.binOp .rem t x y t') (.int .i64 c) :=
  v_bin hx hy (fun _ => guard_int ..) (fun w => by
    show (Op.intDiv .rem .i64 a b).run C.P w = _
    unfold Op.intDiv
    rw [if_neg hn]
    show Result.ok (Value.int .i64 (a.tmod b)) w = _
    rw [hc])

theorem map_eraseIdx' {α β : Type} (f : α → β) : ∀ (l : List α) (j : Nat), (l.eraseIdx j).map f = (l.map f).eraseIdx j
  | [], _ => rfl
  | _ :: _, 0 => rfl
  | x :: l, j + 1 => by simp [map_eraseIdx' f l j]
theorem mget_erase : ∀ (xs : Mp) (j : Nat) (k : Int), (xs.map (·.1)).Nodup → (xs.map (·.1))[j]? = some k → ∀ q, mget (xs.eraseIdx j) q = if q = k then none else mget xs q
  | [], j, k, _, h, _ => by simp at h
  | p :: r, 0, k, hn, h, q => by
    simp only [List.map_cons, List.getElem?_cons_zero, Option.some.injEq] at h
    simp only [List.map_cons, List.nodup_cons] at hn
    rw [List.eraseIdx_cons_zero]
    by_cases e : q = k
    · rw [if_pos e, mget_none, e, ← h]; exact hn.1
    · rw [if_neg e]
      obtain ⟨a, v⟩ := p
      simp only at h
      have : ¬ a = q := by rw [h]; exact fun e2 => e e2.symm
      simp [mget, this]
  | p :: r, j + 1, k, hn, h, q => by
    simp only [List.map_cons, List.getElem?_cons_succ] at h
    simp only [List.map_cons, List.nodup_cons] at hn
    rw [List.eraseIdx_cons_succ]
    obtain ⟨a, v⟩ := p
    have ha : a ≠ k := fun e => hn.1 (by rw [e]; exact List.mem_of_getElem? h)
    have ih := mget_erase r j k hn.2 h q
    by_cases e : a = q
    · have : ¬ q = k := fun e2 => ha (e.trans e2)
      simp [mget, e, this]
    · simp only [mget, e, if_false]; exact ih
theorem o_delete {t kt e : TypeId} {tk : TypeId} {m x : Operand} {b : Nat} {xs : Mp} {k : Int} {δ' : Mp → List Ent} (ht : C.P.underlying t = some (.map kt e)) (hk : C.P.underlying kt = some (.int .i64))
    (hm : evS σ m = some (.map (some b))) (hx : evS σ x = some (.int .i64 k)) (hh : ∀ ys, Swap δ (.map b xs) (δ' ys) (.map b ys)) (kk : ∀ ys, (∀ q, mget ys q = if q = k then none else mget xs q) → OpsJ C ops Q rest σ ds I (δ' ys)) :
    OpsJ C ops Q ({ dst := none, op := .call { callee := .builtin .delete, args := #[m, x], argTypes := #[t, tk] }, type := ty, pos := pos, after := after, guard := none } :: rest) σ ds I δ :=
  op_actv rfl rfl (by intro c hc; cases hc) (fun a w he hs => by
    obtain ⟨l, r, hl1, hl2⟩ := (hh []).split
    obtain ⟨es, clock, hb, hmi⟩ := hs.ents (.map b xs) (by rw [hl1]; simp)
    have hu : (underlying t).run C.P w = .ok (.map kt e) w := by simp [underlying, program, Sem.run, ht]
    have hc : (Instr.checkKey es.isEmpty 10000 kt (.int .i64 k)).run C.P w = .ok () w := MapKept.run_checkKey (w := w) hk (k := .int .i64 k) rfl es.isEmpty 9999
    rcases find_mp es.toList xs k 0 hmi.kv with ⟨g1, g2, g3⟩ | ⟨j, v0, e', g1, g2, g3, g4, g5, g6⟩
    · have hf := MapKept.run_findKey (w := w) hk g2
      have hset := MapKept.heap_set (o' := .map es clock) hb
      obtain ⟨s', t'⟩ := hs.swap (w' := { w with heap := w.heap.setIfInBounds b (.map es clock) }) (hh xs) rfl rfl rfl (by simp) (fun c _ hc => hset.2 c (fun e => hc (by rw [e]; rfl))) ⟨_, _, hset.1, hmi⟩ (fun c hc => .inl hc)
      refine ⟨.tuple #[], _, I, _, ?_, s', t', kk xs (fun q => by split; (rename_i hq; rw [hq]; exact g1); rfl)⟩
      simp [execOp, resolve, invoke, builtin, Builtin.delete_, he.ev hm, he.ev hx, hu, MapKept.run_getObj_map hb, hc, hf, MapKept.run_setObj_map _ hb, Result.andThen]
    · have hf := MapKept.run_findKey (w := w) hk g2
      simp only [Nat.zero_add] at hf
      have hlt : j < es.size := by simpa using (List.getElem?_eq_some_iff.1 g3).1
      have hel : (es.eraseIdxIfInBounds j).toList = es.toList.eraseIdx j := by simp [Array.eraseIdxIfInBounds, hlt]
      have hkj : (xs.map (·.1))[j]? = some k := by
        have := congrArg (fun l => l[j]?) hmi.kv
        simp only [List.getElem?_map, g3, Option.map_some] at this
        cases hx : xs[j]? with
        | none => simp [hx] at this
        | some p => simp [hx, g4] at this; simp [hx, this]
      have hmi' : MapIs (es.eraseIdxIfInBounds j) clock (xs.eraseIdx j) := by
        refine ⟨?_, ?_, ?_, ?_⟩
        · rw [hel, map_eraseIdx', map_eraseIdx', hmi.kv]
        · rw [map_eraseIdx']; exact hmi.keys.sublist (List.eraseIdx_sublist _ _)
        · rw [hel, map_eraseIdx']; exact hmi.born.sublist (List.eraseIdx_sublist _ _)
        · intro x hx; rw [hel] at hx; exact hmi.old x (List.mem_of_mem_eraseIdx hx)
      have hset := MapKept.heap_set (o' := .map (es.eraseIdxIfInBounds j) clock) hb
      obtain ⟨s', t'⟩ := hs.swap (w' := { w with heap := w.heap.setIfInBounds b (.map (es.eraseIdxIfInBounds j) clock) }) (hh (xs.eraseIdx j)) rfl rfl rfl (by simp) (fun c _ hc => hset.2 c (fun e => hc (by rw [e]; rfl))) ⟨_, _, hset.1, hmi'⟩ (fun c hc => .inl hc)
      refine ⟨.tuple #[], _, I, _, ?_, s', t', kk _ (mget_erase xs j k hmi.keys hkj)⟩
      simp [execOp, resolve, invoke, builtin, Builtin.delete_, he.ev hm, he.ev hx, hu, MapKept.run_getObj_map hb, hc, hf, MapKept.run_setObj_map _ hb, Result.andThen])
/-! ### acts that leave all that some floats of a region look at -/
def keepP (l : List Nat) (A : List Ent) (i : Nat) : List Ent := bif l.elem i then A else []
theorem keepP_sub {l : List Nat} {A : List Ent} (h : A.Sublist δ) (i : Nat) : (keepP l A i).Sublist δ := by
  unfold keepP; cases l.elem i
  · exact List.nil_sublist _
  · exact h
theorem keepP_mem {l : List Nat} {A : List Ent} (h : ∀ x ∈ A, x ∈ δ) (i : Nat) : ∀ x ∈ keepP l A i, x ∈ δ := by
  intro x hx; unfold keepP at hx
  cases hq : l.elem i
  · rw [hq] at hx; cases hx
  · rw [hq] at hx; exact h x hx
theorem side_P {Ib : Imm} {l : List Nat} {A : List Ent} {pend : Pend} (hp : pend.all (fun p => !(l.elem p.1)) = true) (h1 : Ib.le I) : Side Ib I (keepP l A) pend δ := fun p hm => by
  have := List.all_eq_true.1 hp p hm
  simp only [Bool.not_eq_true'] at this
  refine ⟨h1, fun x hx => ?_⟩
  unfold keepP at hx
  rw [this] at hx; cases hx
end Go.Proofs.Ythbcdffldcdfoaa.Lg
/- Rows of things of one kind, in memory. Plain definitions and theorems; no condition. -/
set_option linter.unusedVariables false
set_option linter.unusedSimpArgs false
namespace Go.Proofs.Ythbcdffldcdfoaa
open Go Lg

/-- how one thing lies in so many cells -/
structure Elt (n : Nat) (α : Type) where
  R : Imm → α → List Value → Prop
  len : ∀ {I : Imm} {a : α} {vs : List Value}, R I a vs → vs.length = n
  one : ∀ {I : Imm} {a : α} {vs : List Value}, R I a vs → ∀ u ∈ vs, u.oneCell' = true
  mono : ∀ {I J : Imm} {a : α} {vs : List Value}, I.le J → R I a vs → R J a vs
section
variable {n : Nat} {α : Type} {E : Elt n α} {I J : Imm}
def RowE (E : Elt n α) (I : Imm) : List Value → List α → Prop
  | xs, [] => xs = []
  | xs, a :: al => ∃ vs ys, xs = vs ++ ys ∧ E.R I a vs ∧ RowE E I ys al
theorem RowE.nil : RowE E I [] [] := rfl
theorem RowE.length : ∀ {al : List α} {xs : List Value}, RowE E I xs al → xs.length = al.length * n
  | [], xs, h => by have : xs = [] := h; simp [this]
  | a :: al, xs, h => by
    obtain ⟨vs, ys, rfl, h1, h2⟩ := h
    have := E.len h1
    have := RowE.length h2
    rw [List.length_append, List.length_cons, Nat.succ_mul]; omega
theorem RowE.one1 : ∀ {al : List α} {xs : List Value}, RowE E I xs al → ∀ u ∈ xs, u.oneCell' = true
  | [], xs, h => by have : xs = [] := h; simp [this]
  | a :: al, xs, h => by
    obtain ⟨vs, ys, rfl, h1, h2⟩ := h
    intro u hu
    rcases List.mem_append.1 hu with q | q
    · exact E.one h1 u q
    · exact RowE.one1 h2 u q
theorem RowE.mono : ∀ {al : List α} {xs : List Value}, RowE E I xs al → I.le J → RowE E J xs al
  | [], xs, h, _ => h
  | a :: al, xs, h, hl => by
    obtain ⟨vs, ys, rfl, h1, h2⟩ := h
    exact ⟨vs, ys, rfl, E.mono hl h1, RowE.mono h2 hl⟩
theorem RowE.app : ∀ {al bs : List α} {xs ys : List Value}, RowE E I xs al → RowE E I ys bs → RowE E I (xs ++ ys) (al ++ bs)
  | [], bs, xs, ys, h, k => by have : xs = [] := h; subst this; exact k
  | a :: al, bs, xs, ys, h, k => by
    obtain ⟨vs, zs, rfl, h1, h2⟩ := h
    exact ⟨vs, zs ++ ys, by simp, h1, RowE.app h2 k⟩
theorem RowE.single {a : α} {vs : List Value} (h : E.R I a vs) : RowE E I vs [a] := ⟨vs, [], by simp, h, rfl⟩
theorem RowE.split : ∀ {al : List α} {xs : List Value} {i : Nat}, RowE E I xs al → (hi : i < al.length) → ∃ pre vs suf, xs = pre ++ (vs ++ suf) ∧ pre.length = i * n ∧ RowE E I pre (al.take i) ∧ E.R I al[i] vs ∧ RowE E I suf (al.drop (i + 1))
  | [], xs, i, h, hi => by simp at hi
  | a :: al, xs, 0, h, hi => by
    obtain ⟨vs, ys, rfl, h1, h2⟩ := h
    exact ⟨[], vs, ys, rfl, by simp, rfl, h1, h2⟩
  | a :: al, xs, i + 1, h, hi => by
    obtain ⟨vs, ys, rfl, h1, h2⟩ := h
    obtain ⟨pre, ws, suf, rfl, hl, k1, k2, k3⟩ := RowE.split (i := i) h2 (by simpa using hi)
    refine ⟨vs ++ pre, ws, suf, by simp, ?_, ⟨vs, pre, rfl, h1, k1⟩, k2, k3⟩
    rw [List.length_append, E.len h1, hl, Nat.succ_mul]; omega
theorem RowE.at {al : List α} {xs : List Value} {i : Nat} (h : RowE E I xs al) (hi : i < al.length) : ∃ vs, E.R I al[i] vs ∧ (∀ j v, vs[j]? = some v → xs[i * n + j]? = some v) ∧ ∃ r, xs.drop (i * n) = vs ++ r := by
  obtain ⟨pre, vs, suf, rfl, hl, _, h2, _⟩ := h.split hi
  refine ⟨vs, h2, fun j v hj => ?_, suf, by rw [← hl, List.drop_left]⟩
  have hlt := (List.getElem?_eq_some_iff.1 hj).1
  rw [List.getElem?_append_right (by omega), ← hl, Nat.add_sub_cancel_left, List.getElem?_append_left hlt]; exact hj
theorem RowE.cellsAt {al : List α} {xs : List Value} {ad : Option Addr} {i : Nat} (h : RowE E I xs al) (hc : Cells J ad xs) (hi : i < al.length) : ∃ vs, E.R I al[i] vs ∧ At J ad (i * n) vs := by
  obtain ⟨vs, h1, h2, _⟩ := h.at hi
  exact ⟨vs, h1, hc.at _ h2⟩
theorem RowE.take {al : List α} {xs : List Value} (h : RowE E I xs al) (k : Nat) (hk : k ≤ al.length) : RowE E I (xs.take (k * n)) (al.take k) := by
  rcases Nat.lt_or_ge k al.length with q | q
  · obtain ⟨pre, vs, suf, rfl, hl, h1, _, _⟩ := h.split q
    rw [← hl, List.take_left]; exact h1
  · have hx := h.length
    rw [List.take_of_length_le (by rw [hx]; exact Nat.mul_le_mul_right _ q), List.take_of_length_le q]; exact h
theorem RowE.drop : ∀ {al : List α} {xs : List Value} (k : Nat), RowE E I xs al → k ≤ al.length → RowE E I (xs.drop (k * n)) (al.drop k)
  | al, xs, 0, h, _ => by simpa using h
  | [], xs, k + 1, h, hk => by simp at hk
  | a :: al, xs, k + 1, h, hk => by
    obtain ⟨vs, ys, rfl, h1, h2⟩ := h
    have := RowE.drop k h2 (by simpa using hk)
    have e : (vs ++ ys).drop ((k + 1) * n) = ys.drop (k * n) := by
      rw [Nat.succ_mul, Nat.add_comm, ← E.len h1, ← List.drop_drop, List.drop_left]
    rw [e]; exact this
end
theorem stL_mid : ∀ (pre vs suf us ws : List Value) (k : Nat), Lg.stL vs k us = some ws → Lg.stL (pre ++ (vs ++ suf)) (pre.length + k) us = some (pre ++ (ws ++ suf))
  | p :: pre, vs, suf, us, ws, k, h => by
    have ih := stL_mid pre vs suf us ws k h
    show Lg.stL (p :: (pre ++ (vs ++ suf))) (pre.length + 1 + k) us = _
    rw [show pre.length + 1 + k = pre.length + k + 1 by omega]
    cases us with
    | nil =>
      have e1 : Lg.stL (p :: (pre ++ (vs ++ suf))) (pre.length + k + 1) [] = some (p :: (pre ++ (vs ++ suf))) := by simp [Lg.stL]
      have e2 : Lg.stL (pre ++ (vs ++ suf)) (pre.length + k) [] = some (pre ++ (vs ++ suf)) := by simp [Lg.stL]
      rw [e2] at ih
      rw [e1]
      simp only [Option.some.injEq] at ih
      rw [List.cons_append, ← ih]
    | cons u us =>
      simp only [Lg.stL, ih, Option.map_some, List.cons_append]
  | [], vs, suf, us, ws, k, h => by
    simp only [List.nil_append, List.length_nil, Nat.zero_add]
    induction vs generalizing us ws k with
    | nil =>
      cases us with
      | nil => simp [Lg.stL] at h; subst h; simp [Lg.stL]
      | cons u us => simp [Lg.stL] at h
    | cons v vs ih =>
      cases us with
      | nil => simp [Lg.stL] at h; subst h; simp [Lg.stL]
      | cons u us =>
        cases k with
        | zero =>
          simp only [Lg.stL, Option.map_eq_some_iff] at h
          obtain ⟨q, hq, rfl⟩ := h
          simp only [List.cons_append, Lg.stL, ih _ _ _ hq, Option.map_some]
        | succ k =>
          simp only [Lg.stL, Option.map_eq_some_iff] at h
          obtain ⟨q, hq, rfl⟩ := h
          simp only [List.cons_append, Lg.stL, ih _ _ _ hq, Option.map_some]
section
variable {n : Nat} {α : Type} {E : Elt n α} {I J : Imm}
/-- a thing is changed where it stands -/
theorem RowE.store {al : List α} {xs : List Value} {i : Nat} {b : α} (h : RowE E I xs al) (hi : i < al.length) : ∃ vs, E.R I al[i] vs ∧ (∃ r, xs.drop (i * n) = vs ++ r) ∧ ∀ k us ws, Lg.stL vs k us = some ws → E.R I b ws → ∃ ys, Lg.stL xs (i * n + k) us = some ys ∧ RowE E I ys (al.set i b) := by
  obtain ⟨pre, vs, suf, rfl, hl, h1, h2, h3⟩ := h.split hi
  refine ⟨vs, h2, ⟨suf, by rw [← hl, List.drop_left]⟩, fun k us ws hs hb => ⟨pre ++ (ws ++ suf), by rw [← hl]; exact stL_mid _ _ _ _ _ _ hs, ?_⟩⟩
  have e : al.set i b = al.take i ++ (b :: al.drop (i + 1)) := by rw [List.set_eq_take_append_cons_drop]; simp [hi]
  rw [e]
  exact h1.app ⟨ws, suf, rfl, hb, h3⟩
/-- a row that is only read -/
def RepE (E : Elt n α) (I : Imm) (v : Value) (al : List α) : Prop := ∃ (ad : Option Addr) (c : Nat) (xs : List Value), v = .slice ad al.length c ∧ al.length ≤ c ∧ al.length ≤ 1954687338211 ∧ Cells I ad xs ∧ RowE E I xs al
theorem RepE.mono {v : Value} {al : List α} (h : RepE E I v al) (hl : I.le J) : RepE E J v al := by
  obtain ⟨ad, c, xs, rfl, h1, h2, h3, h4⟩ := h
  exact ⟨ad, c, xs, rfl, h1, h2, h3.mono hl, h4.mono hl⟩
theorem RepE.nil : RepE E I (.slice none 0 0) [] := ⟨none, 0, [], rfl, Nat.le_refl _, by simp, fun j v hj => by simp at hj, rfl⟩
theorem RepE.small {v : Value} {al : List α} (h : RepE E I v al) : al.length ≤ 1954687338211 := by obtain ⟨_, _, _, _, _, h2, _⟩ := h; exact h2
end
theorem Lg.Cells.take {I : Imm} {A : Option Addr} {vs : List Value} (h : Cells I A vs) (n : Nat) : Cells I A (vs.take n) := fun j v hj => h j v (by
  rw [List.getElem?_take] at hj
  by_cases q : j < n
  · rwa [if_pos q] at hj
  · rw [if_neg q] at hj; cases hj)
theorem Lg.Cells.cut {I : Imm} {A : Option Addr} {c m size : Nat} {vs : List Value} (h : Cells I A vs) (hl : vs.length ≤ c * size) : Cells I (cutAt A c m size) (vs.drop (m * size)) := fun j v hj => by
  rw [List.getElem?_drop] at hj
  unfold cutAt
  by_cases e : c = m
  · exfalso
    have := (List.getElem?_eq_some_iff.1 hj).1
    subst e; omega
  · rw [if_neg e]
    have := h _ _ hj
    cases A with
    | none => simp [Imm.cellO] at this
    | some a => simpa [add_add] using this
section
variable {n : Nat} {α : Type} {E : Elt n α} {I J : Imm}
theorem RepE.takeR {ad : Option Addr} {c k : Nat} {xs : List Value} {al : List α} (hle : al.length ≤ c) (hb : al.length ≤ 1954687338211) (hc : Cells I ad xs) (hr : RowE E I xs al) (hk : k ≤ al.length) : RepE E I (.slice ad k c) (al.take k) :=
  ⟨ad, c, xs.take (k * n), by rw [List.length_take, Nat.min_eq_left hk], by rw [List.length_take]; omega, by rw [List.length_take]; omega, hc.take _, hr.take k hk⟩
theorem RepE.dropR {ad : Option Addr} {c k : Nat} {xs : List Value} {al : List α} (hle : al.length ≤ c) (hb : al.length ≤ 1954687338211) (hc : Cells I ad xs) (hr : RowE E I xs al) (hk : k ≤ al.length) : RepE E I (.slice (cutAt ad c k n) (al.length - k) (c - k)) (al.drop k) :=
  ⟨cutAt ad c k n, c - k, xs.drop (k * n), by rw [List.length_drop], by rw [List.length_drop]; omega, by rw [List.length_drop]; omega, hc.cut (by rw [hr.length]; exact Nat.mul_le_mul_right _ hle), hr.drop k hk⟩
end
end Go.Proofs.Ythbcdffldcdfoaa
/- Literals and clauses: how they lie in memory. Plain definitions and theorems; no condition. -/
set_option linter.unusedVariables false
set_option linter.unusedSimpArgs false
namespace Go.Proofs.Ythbcdffldcdfoaa
open Go Lg

structure Li where
  neg : Bool
  l : T
  r : T
abbrev liC (x : Li) (la : Option Addr) (lc : Nat) (ra : Option Addr) (rc : Nat) : List Value := [.bool x.neg, .int .i64 x.l.head, .slice la x.l.args.length lc, .int .i64 x.r.head, .slice ra x.r.args.length rc]
/-- a literal that is only read -/
def RepL (I : Imm) (v : Value) (x : Li) : Prop := ∃ (la : Option Addr) (lc : Nat) (ra : Option Addr) (rc : Nat), v = .agg #[.bool x.neg, .int .i64 x.l.head, .slice la x.l.args.length lc, .int .i64 x.r.head, .slice ra x.r.args.length rc] ∧ RepT I (.agg #[.int .i64 x.l.head, .slice la x.l.args.length lc]) x.l ∧ RepT I (.agg #[.int .i64 x.r.head, .slice ra x.r.args.length rc]) x.r
theorem RepL.mono {I J : Imm} {v : Value} {x : Li} (h : RepL I v x) (hl : I.le J) : RepL J v x := by
  obtain ⟨la, lc, ra, rc, h1, h2, h3⟩ := h; exact ⟨la, lc, ra, rc, h1, h2.mono hl, h3.mono hl⟩
def zeroLi : Li := ⟨false, zeroT, zeroT⟩
def eqL (x y : Li) : Bool := (decide (x.l = y.l) && decide (x.r = y.r)) || (decide (x.l = y.r) && decide (x.r = y.l))
def sameL (x y : Li) : Bool := (x.neg == y.neg) && eqL x y
def oppL (x y : Li) : Bool := (!(x.neg == y.neg)) && eqL x y
def exactL (x y : Li) : Bool := (x.neg == y.neg) && (decide (x.l = y.l) && decide (x.r = y.r))
def rowL (x : Li) : List T := if x.neg = true then [x.l, x.l, x.r, x.r] else [x.l, x.r]
def fewL (x : Li) : Bool := decide (x.l.size ≤ 500) && decide (x.r.size ≤ 500)
instance : DecidableEq Li := fun a b => if h : a.neg = b.neg ∧ a.l = b.l ∧ a.r = b.r then .isTrue (by obtain ⟨h1, h2, h3⟩ := h; cases a; cases b; simp_all) else .isFalse fun e => h (by subst e; exact ⟨rfl, rfl, rfl⟩)
def LitE : Elt 5 Li where
  R := fun I x vs => ∃ (la : Option Addr) (lc : Nat) (ra : Option Addr) (rc : Nat), vs = liC x la lc ra rc ∧ RepT I (.agg #[.int .i64 x.l.head, .slice la x.l.args.length lc]) x.l ∧ RepT I (.agg #[.int .i64 x.r.head, .slice ra x.r.args.length rc]) x.r
  len := by rintro I a vs ⟨la, lc, ra, rc, rfl, _, _⟩; rfl
  one := by
    rintro I a vs ⟨la, lc, ra, rc, rfl, _, _⟩ u hu
    simp only [List.mem_cons, List.not_mem_nil, or_false] at hu
    rcases hu with rfl | rfl | rfl | rfl | rfl <;> rfl
  mono := by rintro I J a vs hl ⟨la, lc, ra, rc, rfl, h1, h2⟩; exact ⟨la, lc, ra, rc, rfl, h1.mono hl, h2.mono hl⟩
abbrev RepC (I : Imm) (v : Value) (c : List Li) : Prop := RepE LitE I v c
theorem RepL.row {I : Imm} {v : Value} {x : Li} (h : RepL I v x) : ∃ vs, v = .agg vs.toArray ∧ LitE.R I x vs := by
  obtain ⟨la, lc, ra, rc, rfl, h1, h2⟩ := h
  exact ⟨_, rfl, la, lc, ra, rc, rfl, h1, h2⟩
theorem lit_row {I : Imm} {vs : List Value} {x : Li} (h : LitE.R I x vs) : RepL I (.agg vs.toArray) x := by
  obtain ⟨la, lc, ra, rc, rfl, h1, h2⟩ := h
  exact ⟨la, lc, ra, rc, rfl, h1, h2⟩
/-- all sides -/
def sidesL (c : List Li) : List T := c.flatMap fun x => [x.l, x.r]
def TermE : Elt 2 T where
  R := fun I t vs => ∃ (a : Option Addr) (c : Nat), vs = [.int .i64 t.head, .slice a t.args.length c] ∧ RepT I (.agg #[.int .i64 t.head, .slice a t.args.length c]) t
  len := by rintro I a vs ⟨la, lc, rfl, _⟩; rfl
  one := by
    rintro I a vs ⟨la, lc, rfl, _⟩ u hu
    simp only [List.mem_cons, List.not_mem_nil, or_false] at hu
    rcases hu with rfl | rfl <;> rfl
  mono := by rintro I J a vs hl ⟨la, lc, rfl, h1⟩; exact ⟨la, lc, rfl, h1.mono hl⟩
theorem repT_head {I : Imm} {v : Value} {t : T} (h : RepT I v t) : InR t.head := by obtain ⟨s, t, hr, _⟩ := h; exact hr
theorem RowE.rowT {I : Imm} {xs : List Value} {ts : List T} (h : RowE TermE I xs ts) : RowT I xs ts := by
  refine ⟨h.length, fun i hi => ?_⟩
  obtain ⟨vs, ⟨a, c, rfl, hr⟩, hat, _⟩ := h.at hi
  exact ⟨(a, c), hat 0 _ rfl, hat 1 _ rfl, hr⟩
theorem RowE.repS {I : Imm} {ad : Option Addr} {c : Nat} {xs : List Value} {ts : List T} (h : RowE TermE I xs ts) (hc : Cells I ad xs) (hle : ts.length ≤ c) (hb : ts.length ≤ 4398046511104) : RepS I (.slice ad ts.length c) ts := by
  have := RowT.rep (h := 0) hc h.rowT (by unfold InR; omega) hle hb
  have key : ∀ (v : Value) (t : T) (s : Value), RepT I v t → v = .agg #[.int .i64 t.head, s] → RepS I s t.args := fun v t s hv e => by
    obtain ⟨s', t, hr, hs⟩ := hv
    have e' : s' = s := by simpa using e
    subst e'; exact hs
  exact key _ _ _ this rfl
end Go.Proofs.Ythbcdffldcdfoaa
/- What a row's reading of a literal says of the heap; plain facts, no condition. -/
set_option linter.unusedVariables false
set_option linter.unusedSimpArgs false
namespace Go.Proofs.Ythbcdffldcdfoaa
open Go Lg Go.ChangeShapes Go.WideShapes Go.ChangeAt Go.RowKit
variable {H : Type} {enc : TypeId × Value → H} {P : Program} {W : World} {spare : Nat → Bool} {held : Bool}
structure LiLay (P : Program) (tL tT tTs tI tb : TypeId) : Prop where
  tree : TreeTy P tT tTs tI
  str : ∃ f0 f1 f2 : Field, P.underlying tL = some (.struct #[f0, f1, f2]) ∧ (f0.type = tb ∧ f0.offset = 0) ∧ (f1.type = tT ∧ f1.offset = 1) ∧ f2.type = tT ∧ f2.offset = 3
  ub : P.underlying tb = some .bool
  cL : P.cellsOf tL = 5
  cb : P.cellsOf tb = 1
theorem openLi {tL tT tTs tI tb : TypeId} (ly : LiLay P tL tT tTs tI tb) {fuel : Nat} {cs : List Value} {x : DataW H × List MemPlace} (h : DataW.trod enc P W 0 spare held fuel tL cs = some x) (hw : (x.1.weights P tL).all (· ≤ reachBytes) = true) :
    ∃ (y : Li) (la ra : Option Addr) (lc rc : Nat), cs = [.bool y.neg, .int .i64 y.l.head, .slice la y.l.args.length lc, .int .i64 y.r.head, .slice ra y.r.args.length rc] ∧ RepT (hImm W) (.agg #[.int .i64 y.l.head, .slice la y.l.args.length lc]) y.l ∧ RepT (hImm W) (.agg #[.int .i64 y.r.head, .slice ra y.r.args.length rc]) y.r := by
  obtain ⟨f0, f1, f2, hs, ⟨e1, e2⟩, ⟨g1, g2⟩, k1, k2⟩ := ly.str
  obtain ⟨xs, n, rfl, hx, hcl, hxl, hxs⟩ := DataW.trod_struct hs h
  rw [ly.cL] at hcl
  obtain ⟨a, b, c, d, e, rfl⟩ : ∃ a b c d e, cs = [a, b, c, d, e] := by
    rcases cs with _ | ⟨a, _ | ⟨b, _ | ⟨c, _ | ⟨d, _ | ⟨e, _ | ⟨_, _⟩⟩⟩⟩⟩⟩ <;> simp at hcl
    exact ⟨a, b, c, d, e, rfl⟩
  have q0 := hxs 0 f0 rfl
  have q1 := hxs 1 f1 rfl
  have q2 := hxs 2 f2 rfl
  have hx3 : xs.length = 3 := hxl
  obtain ⟨x0, x1, x2, rfl⟩ : ∃ x0 x1 x2, xs = [x0, x1, x2] := by
    rcases xs with _ | ⟨u, _ | ⟨v, _ | ⟨w, _ | ⟨_, _⟩⟩⟩⟩ <;> simp at hx3
    exact ⟨u, v, w, rfl⟩
  rw [e1, e2, ly.cb] at q0
  rw [g1, g2, ly.tree.cT] at q1
  rw [k1, k2, ly.tree.cT] at q2
  simp only [List.drop_zero, List.drop_succ_cons, List.take_succ_cons, List.take_zero, List.getElem?_cons_zero, List.getElem?_cons_succ] at q0 q1 q2
  subst hx
  have hts : (#[f0, f1, f2] : Array Field).toList.map (·.type) = [tb, tT, tT] := by simp [e1, g1, k1]
  simp only [DataW.weights, hs, hts, List.map_cons, List.map_nil, DataW.weightsEach, List.all_append, Bool.and_eq_true] at hw
  obtain ⟨m, hm, _⟩ := DataW.trod_bool ly.ub q0
  obtain ⟨s, t, hc, hr⟩ := openT ly.tree n _ x1.1 x1.2 q1 hw.2.1
  obtain ⟨s', t', hc', hr'⟩ := openT ly.tree n _ x2.1 x2.2 q2 hw.2.2.1
  obtain ⟨sa, sc, hsh, _⟩ := hr.shape
  obtain ⟨sa', sc', hsh', _⟩ := hr'.shape
  have hse : s = .slice sa t.args.length sc := by simpa using hsh
  have hse' : s' = .slice sa' t'.args.length sc' := by simpa using hsh'
  subst hse; subst hse'
  simp only [List.cons.injEq, and_true] at hm hc hc'
  obtain ⟨rfl, rfl⟩ := hc
  obtain ⟨rfl, rfl⟩ := hc'
  subst hm
  exact ⟨⟨m, t, t'⟩, sa, sa', sc, sc', rfl, hr, hr'⟩
theorem openLv {tL tT tTs tI tb : TypeId} (ly : LiLay P tL tT tTs tI tb) {v : Value} {d : DataW H} {ps : List MemPlace} (h : DataW.Trod enc P W 0 spare held tL v d ps) (hw : (d.weights P tL).all (· ≤ reachBytes) = true) (hv : ∃ cs, v = .agg cs) : ∃ x, RepL (hImm W) v x := by
  obtain ⟨cs, rfl⟩ := hv
  obtain ⟨fuel, h1⟩ := h
  obtain ⟨y, la, ra, lc, rc, hc, hl, hr⟩ := openLi ly h1 hw
  refine ⟨y, la, lc, ra, rc, ?_, hl, hr⟩
  have : cs.toList = [.bool y.neg, .int .i64 y.l.head, .slice la y.l.args.length lc, .int .i64 y.r.head, .slice ra y.r.args.length rc] := by simpa [Value.cells] using hc
  cases cs; simp at this; subst this; rfl
end Go.Proofs.Ythbcdffldcdfoaa
/- The rules of the logic: arrays as values. No condition. -/
set_option linter.unusedVariables false
set_option linter.unusedSimpArgs false
namespace Go.Proofs.Ythbcdffldcdfoaa.Lg
open Go Go.RowKit

variable {C : Ctx} {Q : Exit → Act → World → Prop} {σ : Env} {ds : List Nat} {I : Imm} {δ : List Ent} {ops : Array Oper} {rest : List Oper}
variable {d : Nat} {ty : TypeId} {pos : String} {after : Array Edge}

/-- an array's part; what the instruction yields is computed -/
theorem v_indexK {t : TypeId} {x y : Operand} {u i v : Value} (hx : evS σ x = some u) (hy : evS σ y = some i) (h : ∀ w, (Instr.index t u i).run C.P w = .ok v w) :
    ValJ C σ ds I δ (.index t x y) v :=
  fun _ _ _ _ _ a w he _ => by simp only [execOp, he.ev hx, he.ev hy, Sem.run_bind, h, Result.andThen]; rfl
/-- an array out of its parts; what the instruction yields is computed -/
theorem v_buildK {t : TypeId} {parts : List (Nat × Operand)} {vs : List (Nat × Value)} {v : Value} (hx : evP σ parts = some vs) (h : ∀ w, (Instr.build t vs.toArray).run C.P w = .ok v w) :
    ValJ C σ ds I δ (.build t parts.toArray) v :=
  fun _ _ _ _ _ a w he _ => by
    have hmap : parts.toArray.map (fun (x : Nat × Operand) => match x with | (i, x) => (i, a.eval x)) = vs.toArray := by
      rw [← evP_ok he hx]; simp
    simp only [execOp, hmap, Sem.run_bind, h, Result.andThen]; rfl
end Go.Proofs.Ythbcdffldcdfoaa.Lg
/- Walks: rows of literals: a clone, all sides, whether they are few. -/
set_option linter.unusedVariables false
set_option linter.unusedSimpArgs false
set_option linter.unnecessarySimpa false
/- short -/
namespace Go.Proofs.Ythbcdffldcdfoaa
open Go Lg

theorem CloneC_does {I : Imm} {v : Value} {c : List Li} (hv : RepC I v c) :
    Does Try.prog 59 [v] I [] (fun v I' δ' => ∃ ad' c' xs, v = .slice ad' c.length c' ∧ RowE LitE I' xs c ∧ δ' = [.row (.slice ad' c.length c') 110 5 c.length xs]) := by
  obtain ⟨ad, c0, xs, rfl, hc, hb, hcells, hrow⟩ := hv
  refine Does.intro Try.func59 rfl Try.ntmps59 rfl fun w0 => ?_
  have hxl := hrow.length
  refine code_seq ?_
  refine code_region ?_
  refine op_v (v_assign rfl) rfl ?_
  refine ops_nil ?_
  refine post_next ?_
  refine code_seq ?_
  refine code_seq ?_
  refine code_region ?_
  refine op_v (v_move rfl) rfl ?_
  refine op_v (v_nilq Try.underlying27 rfl rfl rfl) rfl ?_
  refine ops_nil ?_
  refine post_next ?_
  refine code_cond rfl (fun hc0 => ?_) (fun hc0 => ?_)
  · have had : ad = none := by simpa using hc0
    subst had
    have hn0 : c = [] := by
      rcases c with _ | ⟨x, r⟩
      · rfl
      · exfalso
        obtain ⟨vs, ⟨la, lc, ra, rc, rfl, _⟩, hat⟩ := hrow.cellsAt hcells (i := 0) (by simp)
        have := hat.isSome
        simp at this
    subst hn0
    refine code_seq ?_
    refine code_region ?_
    refine op_v (v_assign rfl) rfl ?_
    refine ops_nil ?_
    refine post_next ?_
    refine code_ret ?_
    refine post_ret_then ?_
    refine PostJ.view (View.nilRow 110 5) (post_ret (rs := [.tmp 2]) rfl (List.Perm.refl _) (.cons (.tmp rfl) .nil) (List.Sublist.refl _) ⟨none, 0, [], rfl, rfl, rfl⟩)
  · refine code_skip ?_
    refine post_next ?_
    refine code_seq ?_
    refine code_region ?_
    refine o_buildSlice (xs := []) Try.underlying27 bs110 rfl rfl rfl rfl rfl (fun b5 => ?_)
    refine op_v (v_move rfl) rfl ?_
    refine o_append Try.underlying27 bs110 rfl rfl rfl (fun v' => by repeat (first | exact Swap.here | apply Swap.there)) (Src.ofI hcells) hxl hrow.one1 (by omega) (by omega) (fun a7 c7 => ?_)
    refine op_v (v_assign rfl) rfl ?_
    refine ops_nil ?_
    refine post_next ?_
    refine code_ret ?_
    refine post_ret (rs := [.tmp 2]) rfl (List.Perm.refl _) (.cons (.tmp rfl) .nil) (List.Sublist.refl _) ?_
    refine ⟨a7, c7, xs, ?_, hrow.mono Imm.leA, ?_⟩
    · simp [outV]
    · simp [cat]
theorem sidesL_len (c : List Li) : (sidesL c).length = 2 * c.length := by
  induction c with
  | nil => rfl
  | cons x r ih => simp only [sidesL, List.flatMap_cons, List.length_append, List.length_cons, List.length_nil] at ih ⊢; omega
theorem sidesL_take (c : List Li) (k : Nat) (h : k < c.length) : sidesL (c.take (k + 1)) = sidesL (c.take k) ++ [c[k].l, c[k].r] := by
  rw [List.take_succ_eq_append_getElem h]; simp only [sidesL, List.flatMap_append, List.flatMap_cons, List.flatMap_nil, List.append_nil]
theorem Terms_does {I : Imm} {v : Value} {c : List Li} (hv : RepC I v c) :
    Does Try.prog 53 [v] I [] (fun v I' δ' => RepS I' v (sidesL c) ∧ δ' = []) := by
  obtain ⟨ad, c0, xs, rfl, hc, hb, hcells, hrow⟩ := hv
  refine Does.intro Try.func53 rfl Try.ntmps53 rfl fun w0 => ?_
  refine code_seq ?_
  refine code_region ?_
  refine op_v (v_assign rfl) rfl ?_
  refine ops_nil ?_
  refine post_next ?_
  refine code_seq ?_
  refine code_region ?_
  refine op_v (v_assign rfl) rfl ?_
  refine ops_nil ?_
  refine post_next ?_
  refine code_seq ?_
  refine code_seq ?_
  refine code_region ?_
  refine op_v (v_assign rfl) rfl ?_
  refine ops_nil ?_
  refine post_next ?_
  refine code_block ?_
  refine CodeJ.view (View.nilRow 108 2) ?_
  refine code_loop (fun m σ' I' δ' => ∃ (k : Nat) (A : Option Addr) (c' : Nat) (ys : List Value), m = c.length - k ∧ k ≤ c.length ∧ σ' = [(0, .slice ad c.length c0), (3, .slice A (2 * k) c'), (4, .int .i64 k)] ∧ I = I' ∧ δ' = [.row (.slice A (2 * k) c') 108 2 (2 * k) ys] ∧ RowE TermE I ys (sidesL (c.take k))) c.length [(0, .slice ad c.length c0), (3, .slice none (2 * 0) 0), (4, .int .i64 (0 : Nat))] ⟨0, none, 0, [], rfl, Nat.zero_le _, rfl, rfl, rfl, rfl⟩ ⟨rfl, rfl, rfl, trivial⟩ ?_
  rintro m _ _ _ ⟨k, A, c', ys, rfl, hk, rfl, rfl, rfl, hys⟩
  refine code_seq ?_
  refine code_seq ?_
  refine code_region ?_
  refine op_v (v_move rfl) rfl ?_
  refine op_v (v_move rfl) rfl ?_
  refine op_v (v_len Try.underlying27 rfl) rfl ?_
  first | refine op_v (v_cmptA rfl rfl rfl) rfl ?_ | refine op_v (v_cmpfA rfl rfl rfl) rfl ?_ | refine op_v (v_cmp rfl rfl rfl) rfl ?_
  refine ops_nil ?_
  refine post_next ?_
  refine code_cond rfl (fun hc0 => ?_) (fun hc0 => ?_)
  · have hlt : k < c.length := by simpa using hc0
    obtain ⟨vs, ⟨la, lc, ra, rc, rfl, hl, hr⟩, hat⟩ := hrow.cellsAt hcells hlt
    have hs1 := hat.isSome
    refine code_skip ?_
    refine post_next ?_
    refine code_seq ?_
    refine code_block ?_
    refine code_draw (.fl 0 (.fl 1 (.fl 2 (.fl 3 (.fl 4 (.fl 5 (.fl 6 (.fl 7 (.fl 8 (.fl 9 (.fl 10 (.ef 11 (.ef 12 (.ef 13 .done)))))))))))))) (fun _ => ([] : List Ent)) mixed (by kernel_rfl) (by kernel_rfl) (fun _ => (List.nil_sublist _)) ?_
    refine e_fl rfl rfl (fun hs_ => PF.mk rfl (v_move rfl) hs_) ?_
    refine e_fl rfl rfl (fun hs_ => PF.mk rfl (v_move rfl) hs_) ?_
    refine e_fl rfl rfl (fun hs_ => PF.mk rfl (v_move rfl) hs_) ?_
    first | refine e_fl rfl rfl (fun hs_ => PF.mk rfl (v_indexA Try.underlying27 sz110 rfl rfl) hs_) ?_ | refine e_fl rfl rfl (fun hs_ => PF.mk rfl (v_indexIA Try.underlying27 sz110 rfl rfl) hs_) ?_
    first | refine e_fl rfl rfl (fun hs_ => PF.mk rfl (v_fieldB 1 Try.underlying110 rfl rfl fz108 rfl) hs_) ?_ | refine e_fl rfl rfl (fun hs_ => PF.mk rfl (v_fieldI 1 Try.underlying110 rfl rfl fz108 rfl (by assumption)) hs_) ?_ | refine e_fl rfl rfl (fun hs_ => PF.mk rfl (v_field Try.underlying110 rfl fz108 rfl rfl) hs_) ?_
    refine e_fl rfl rfl (fun hs_ => PF.mk rfl (v_loadI (k := 1) ty108 hat rfl rfl rfl) hs_) ?_
    refine e_fl rfl rfl (fun hs_ => PF.mk rfl (v_move rfl) hs_) ?_
    refine e_fl rfl rfl (fun hs_ => PF.mk rfl (v_move rfl) hs_) ?_
    first | refine e_fl rfl rfl (fun hs_ => PF.mk rfl (v_indexA Try.underlying27 sz110 rfl rfl) hs_) ?_ | refine e_fl rfl rfl (fun hs_ => PF.mk rfl (v_indexIA Try.underlying27 sz110 rfl rfl) hs_) ?_
    first | refine e_fl rfl rfl (fun hs_ => PF.mk rfl (v_fieldB 3 Try.underlying110 rfl rfl fz108 rfl) hs_) ?_ | refine e_fl rfl rfl (fun hs_ => PF.mk rfl (v_fieldI 3 Try.underlying110 rfl rfl fz108 rfl (by assumption)) hs_) ?_ | refine e_fl rfl rfl (fun hs_ => PF.mk rfl (v_field Try.underlying110 rfl fz108 rfl rfl) hs_) ?_
    refine e_fl rfl rfl (fun hs_ => PF.mk rfl (v_loadI (k := 3) ty108 hat rfl rfl rfl) hs_) ?_
    refine e_eff rfl (by intro cs b hc; cases hc) (by intro c hc; cases hc) ?_
    refine o_buildSlice (xs := [(Go.Operand.tmp 16), (Go.Operand.tmp 21)]) Try.underlying93 bs108 rfl rfl rfl rfl rfl (fun b22 => ?_)
    refine ops_nil ?_
    refine e_next rfl side_allA ?_
    refine e_eff rfl (by intro cs b hc; cases hc) (by intro c hc; cases hc) ?_
    refine o_append Try.underlying93 bs108 rfl rfl rfl (fun v' => by repeat (first | exact Swap.here | apply Swap.there)) (Src.ofRow (by repeat (first | exact Has.here | apply Has.there)) rfl) (by first | rfl | omega | simp) (by simp [cat, cellsL, Value.oneCell']) (by omega) (by omega) (fun a23 c23 => ?_)
    refine ops_nil ?_
    refine e_next rfl side_allA ?_
    refine e_eff rfl (by intro cs b hc; cases hc) (by intro c hc; cases hc) ?_
    refine op_v (v_assign rfl) rfl ?_
    refine ops_nil ?_
    refine e_next rfl (side_nil (by kernel_rfl)) ?_
    refine e_done ?_
    refine post_out ?_
    refine post_next ?_
    refine code_region ?_
    refine op_v (v_move rfl) rfl ?_
    first | refine op_v (v_addb rfl rfl rfl (by omega)) rfl ?_ | refine op_v (v_add rfl rfl) rfl ?_
    refine op_v (v_assign rfl) rfl ?_
    refine ops_nil ?_
    refine PostJ.view (View.drop Del.here) ?_
    refine post_again (c.length - (k + 1)) [(0, .slice ad c.length c0), (3, .slice a23 (2 * (k + 1)) c23), (4, .int .i64 (k + 1 : Nat))] (by omega) ⟨k + 1, a23, c23, ys ++ [.int .i64 c[k].l.head, .slice la c[k].l.args.length lc, .int .i64 c[k].r.head, .slice ra c[k].r.args.length rc], rfl, hlt, rfl, rfl, ?_, ?_⟩ ⟨rfl, rfl, rfl, trivial⟩
    · simp [cat, cellsL]; omega
    · rw [sidesL_take c k hlt]
      exact hys.app ⟨[.int .i64 c[k].l.head, .slice la c[k].l.args.length lc], [.int .i64 c[k].r.head, .slice ra c[k].r.args.length rc], rfl, ⟨la, lc, rfl, hl⟩, RowE.single ⟨ra, rc, rfl, hr⟩⟩
  · have hge : k = c.length := by simp at hc0; omega
    subst hge
    rw [List.take_length] at hys
    refine code_exit ?_
    refine post_exit_then ?_
    refine post_exit_then ?_
    refine post_exit ?_
    refine post_next ?_
    refine code_seq ?_
    refine code_region ?_
    refine OpsJ.freezeRow Del.here ?_
    rintro I24 a24 c24 hI24 hq hc24 hl24 hcells24
    cases hq
    refine op_v (v_move rfl) rfl ?_
    refine op_v (v_assign rfl) rfl ?_
    refine ops_nil ?_
    refine post_next ?_
    refine code_ret ?_
    refine post_ret (rs := [.tmp 2]) rfl (List.Perm.refl _) (.cons (.tmp rfl) .nil) (List.nil_sublist _) ?_
    refine ⟨?_, rfl⟩
    have h2 := sidesL_len c
    have := RowE.repS (c := c') (hys.mono hI24) hcells24 (by omega) (by omega)
    rw [h2] at this; exact this
theorem sizeL_getL {ts : List T} {n : Nat} (h : sizeL ts ≤ n) : ∀ x ∈ ts, x.size ≤ n := by
  intro x hx
  obtain ⟨i, hi, rfl⟩ := List.getElem_of_mem hx
  have h1 := sizeL_take ts i hi
  have h2 : sizeL (ts.take (i + 1)) + sizeL (ts.drop (i + 1)) = sizeL ts := by rw [← sizeL_app, List.take_append_drop]
  omega
theorem Few5_does {I : Imm} {v : Value} {ts : List T} (hv : RepS I v ts) :
    Does Try.prog 52 [v] I [] (fun v I' δ' => (∃ b, v = .bool b ∧ (b = true → sizeL ts ≤ 500)) ∧ δ' = []) := by
  obtain ⟨ad, c, ss, ts, hc, hb, hat, hr, hsub0⟩ := hv
  have hsub : ∀ i (h : i < ts.length), RepT I (.agg #[.int .i64 ts[i].head, .slice (ss i).1 ts[i].args.length (ss i).2]) ts[i] := fun i hi => RepT.mk _ _ (hr i hi) (hsub0 i hi)
  refine Does.intro Try.func52 rfl Try.ntmps52 rfl fun w0 => ?_
  refine code_seq ?_
  refine code_region ?_
  refine op_v (v_assign rfl) rfl ?_
  refine ops_nil ?_
  refine post_next ?_
  refine code_seq ?_
  refine code_region ?_
  refine op_v (v_assign rfl) rfl ?_
  refine ops_nil ?_
  refine post_next ?_
  refine code_seq ?_
  refine code_seq ?_
  refine code_region ?_
  refine op_v (v_assign rfl) rfl ?_
  refine ops_nil ?_
  refine post_next ?_
  refine code_block ?_
  refine code_loop (fun m σ' I' δ' => ∃ (k n : Nat), m = ts.length - k ∧ k ≤ ts.length ∧ σ' = [(0, .slice ad ts.length c), (3, .int .i64 n), (4, .int .i64 k)] ∧ I.le I' ∧ δ' = [] ∧ n ≤ 2000 ∧ (n ≤ 500 → n = sizeL (ts.take k))) ts.length [(0, .slice ad ts.length c), (3, .int .i64 (0 : Nat)), (4, .int .i64 (0 : Nat))] ⟨0, 0, rfl, Nat.zero_le _, rfl, Imm.le_refl _, rfl, by omega, fun _ => rfl⟩ ⟨rfl, rfl, rfl, trivial⟩ ?_
  rintro m _ I0 _ ⟨k, n, rfl, hk, rfl, hI0, rfl, hn, hp⟩
  refine code_seq ?_
  refine code_seq ?_
  refine code_region ?_
  refine op_v (v_move rfl) rfl ?_
  refine op_v (v_move rfl) rfl ?_
  refine op_v (v_len Try.underlying93 rfl) rfl ?_
  by_cases h7 : k < ts.length
  · have hs1 := (hat k h7).isSome
    have hst := sizeL_take ts k h7
    first | refine op_v (v_cmptA rfl rfl rfl) rfl ?_ | refine op_v (v_cmpfA rfl rfl rfl) rfl ?_ | refine op_v (v_cmp rfl rfl rfl) rfl ?_
    refine op_v (v_move rfl) rfl ?_
    first
      | (refine op_want rfl rfl ?_
         refine op_v (v_move rfl) rfl ?_)
      | (refine op_skip rfl rfl (by simp [undef]) rfl ?_)
    by_cases h16 : n ≤ 500
    · first
        | (refine op_want rfl rfl ?_
           first | refine op_v (v_cmptA rfl rfl rfl) rfl ?_ | refine op_v (v_cmpfA rfl rfl rfl) rfl ?_ | refine op_v (v_cmp rfl rfl rfl) rfl ?_)
        | (refine op_skip rfl rfl (by simp [undef]) rfl ?_)
      first | refine op_v (v_pickt rfl rfl) rfl ?_ | refine op_v (v_pickf rfl rfl) rfl ?_ | refine op_v (v_pickb rfl rfl rfl) rfl ?_
      refine ops_nil ?_
      refine post_next ?_
      refine code_cond_t rfl ?_
      refine code_skip ?_
      refine post_next ?_
      refine code_seq ?_
      refine code_block ?_
      refine code_region ?_
      refine op_v (v_move rfl) rfl ?_
      refine op_v (v_move rfl) rfl ?_
      refine op_v (v_move rfl) rfl ?_
      first | refine op_v (v_indexA Try.underlying93 sz108 rfl rfl) rfl ?_ | refine op_v (v_indexIA Try.underlying93 sz108 rfl rfl) rfl ?_
      first | refine op_v (v_loadI0 ty108 ((hat k h7).mono hI0) rfl rfl rfl) rfl ?_ | refine op_v (v_loadI ty108 ((hat k h7).mono hI0) rfl rfl rfl) rfl ?_
      refine op_call pl62 rfl rfl ((Count_does _ _ (Nat.le_refl _) 500 (by omega) _ _ ((hsub k h7).mono hI0))) Parts.none ?_
      rintro v20 I20 _ hI20 ⟨rfl, rfl⟩
      first | refine op_v (v_addb rfl rfl rfl (by omega)) rfl ?_ | refine op_v (v_add rfl rfl) rfl ?_
      refine op_v (v_assign rfl) rfl ?_
      refine ops_nil ?_
      refine post_out ?_
      refine post_next ?_
      refine code_region ?_
      refine op_v (v_move rfl) rfl ?_
      first | refine op_v (v_addb rfl rfl rfl (by omega)) rfl ?_ | refine op_v (v_add rfl rfl) rfl ?_
      refine op_v (v_assign rfl) rfl ?_
      refine ops_nil ?_
      refine post_again (ts.length - (k + 1)) [(0, .slice ad ts.length c), (3, .int .i64 ((n : Int) + ((min ts[k].size (500 + 1) : Nat) : Int))), (4, .int .i64 (k + 1 : Nat))] (by omega) ⟨k + 1, n + min ts[k].size (500 + 1), rfl, h7, by rw [show ((n + min ts[k].size (500 + 1) : Nat) : Int) = (n : Int) + ((min ts[k].size (500 + 1) : Nat) : Int) from Int.natCast_add _ _], Imm.leA, rfl, by omega, fun hq => ?_⟩ ⟨rfl, rfl, rfl, trivial⟩
      have := hp (by omega)
      omega
    · first
        | (refine op_want rfl rfl ?_
           first | refine op_v (v_cmptA rfl rfl rfl) rfl ?_ | refine op_v (v_cmpfA rfl rfl rfl) rfl ?_ | refine op_v (v_cmp rfl rfl rfl) rfl ?_)
        | (refine op_skip rfl rfl (by simp [undef]) rfl ?_)
      first | refine op_v (v_pickt rfl rfl) rfl ?_ | refine op_v (v_pickf rfl rfl) rfl ?_ | refine op_v (v_pickb rfl rfl rfl) rfl ?_
      refine ops_nil ?_
      refine post_next ?_
      refine code_cond_f rfl ?_
      refine code_exit ?_
      refine post_exit_then ?_
      refine post_exit_then ?_
      refine post_exit ?_
      refine post_next ?_
      refine code_seq ?_
      refine code_region ?_
      refine op_v (v_move rfl) rfl ?_
      first | refine op_v (v_cmptA rfl rfl rfl) rfl ?_ | refine op_v (v_cmpfA rfl rfl rfl) rfl ?_ | refine op_v (v_cmp rfl rfl rfl) rfl ?_
      refine op_v (v_assign rfl) rfl ?_
      refine ops_nil ?_
      refine post_next ?_
      refine code_ret ?_
      refine post_ret (rs := [.tmp 2]) rfl (List.Perm.refl _) (.cons (.tmp rfl) .nil) (List.nil_sublist _) ?_
      exact ⟨⟨false, rfl, fun h => by cases h⟩, rfl⟩
  · first | refine op_v (v_cmptA rfl rfl rfl) rfl ?_ | refine op_v (v_cmpfA rfl rfl rfl) rfl ?_ | refine op_v (v_cmp rfl rfl rfl) rfl ?_
    refine op_v (v_move rfl) rfl ?_
    first
      | (refine op_want rfl rfl ?_
         refine op_v (v_move rfl) rfl ?_)
      | (refine op_skip rfl rfl (by simp [undef]) rfl ?_)
    first
      | (refine op_want rfl rfl ?_
         first | refine op_v (v_cmptA rfl rfl rfl) rfl ?_ | refine op_v (v_cmpfA rfl rfl rfl) rfl ?_ | refine op_v (v_cmp rfl rfl rfl) rfl ?_)
      | (refine op_skip rfl rfl (by simp [undef]) rfl ?_)
    first | refine op_v (v_pickt rfl rfl) rfl ?_ | refine op_v (v_pickf rfl rfl) rfl ?_ | refine op_v (v_pickb rfl rfl rfl) rfl ?_
    refine ops_nil ?_
    refine post_next ?_
    refine code_cond_f rfl ?_
    refine code_exit ?_
    refine post_exit_then ?_
    refine post_exit_then ?_
    refine post_exit ?_
    refine post_next ?_
    refine code_seq ?_
    refine code_region ?_
    refine op_v (v_move rfl) rfl ?_
    by_cases h33 : n ≤ 500
    · first | refine op_v (v_cmptA rfl rfl rfl) rfl ?_ | refine op_v (v_cmpfA rfl rfl rfl) rfl ?_ | refine op_v (v_cmp rfl rfl rfl) rfl ?_
      refine op_v (v_assign rfl) rfl ?_
      refine ops_nil ?_
      refine post_next ?_
      refine code_ret ?_
      refine post_ret (rs := [.tmp 2]) rfl (List.Perm.refl _) (.cons (.tmp rfl) .nil) (List.nil_sublist _) ?_
      exact ⟨⟨true, rfl, fun _ => by have := hp h33; rw [List.take_of_length_le (by omega)] at this; omega⟩, rfl⟩
    · first | refine op_v (v_cmptA rfl rfl rfl) rfl ?_ | refine op_v (v_cmpfA rfl rfl rfl) rfl ?_ | refine op_v (v_cmp rfl rfl rfl) rfl ?_
      refine op_v (v_assign rfl) rfl ?_
      refine ops_nil ?_
      refine post_next ?_
      refine code_ret ?_
      refine post_ret (rs := [.tmp 2]) rfl (List.Perm.refl _) (.cons (.tmp rfl) .nil) (List.nil_sublist _) ?_
      exact ⟨⟨false, rfl, fun h => by cases h⟩, rfl⟩
def FewC (c : List Li) : Prop := c.length ≤ 40 ∧ sizeL (sidesL c) ≤ 500
theorem Few10_does {I : Imm} {v : Value} {c : List Li} (hv : RepC I v c) :
    Does Try.prog 22 [v] I [] (fun v I' δ' => (∃ b, v = .bool b ∧ (b = true → FewC c)) ∧ δ' = []) := by
  obtain ⟨ad, c0, hvs⟩ : ∃ ad c0, v = .slice ad c.length c0 := by obtain ⟨ad, c0, _, h, _⟩ := hv; exact ⟨ad, c0, h⟩
  subst hvs
  have hsm := hv.small
  refine Does.intro Try.func22 rfl Try.ntmps22 rfl fun w0 => ?_
  refine code_seq ?_
  refine code_region ?_
  refine op_v (v_assign rfl) rfl ?_
  refine ops_nil ?_
  refine post_next ?_
  refine code_seq ?_
  refine code_region ?_
  refine op_v (v_move rfl) rfl ?_
  refine op_v (v_len Try.underlying27 rfl) rfl ?_
  by_cases h5 : c.length ≤ 40
  · first | refine op_v (v_cmptA rfl rfl rfl) rfl ?_ | refine op_v (v_cmpfA rfl rfl rfl) rfl ?_ | refine op_v (v_cmp rfl rfl rfl) rfl ?_
    refine op_v (v_move rfl) rfl ?_
    first
      | (refine op_want rfl rfl ?_
         refine op_v (v_move rfl) rfl ?_)
      | (refine op_skip rfl rfl (by simp [undef]) rfl ?_)
    first
      | (refine op_want rfl rfl ?_
         refine op_call pl53 rfl rfl ((Terms_does (hv.mono Imm.leA))) Parts.none ?_
         rintro v8 I8 _ hI8 ⟨hs8, rfl⟩)
      | (refine op_skip rfl rfl (by simp [undef]) rfl ?_)
    first
      | (refine op_want rfl rfl ?_
         refine op_call pl52 rfl rfl ((Few5_does hs8)) Parts.none ?_
         rintro v9 I9 _ hI9 ⟨⟨b9, rfl, hb9⟩, rfl⟩)
      | (refine op_skip rfl rfl (by simp [undef]) rfl ?_)
    first | refine op_v (v_pickt rfl rfl) rfl ?_ | refine op_v (v_pickf rfl rfl) rfl ?_ | refine op_v (v_pickb rfl rfl rfl) rfl ?_
    refine op_v (v_assign rfl) rfl ?_
    refine ops_nil ?_
    refine post_next ?_
    refine code_ret ?_
    refine post_ret (rs := [.tmp 2]) rfl (List.Perm.refl _) (.cons (.tmp rfl) .nil) (List.nil_sublist _) ?_
    exact ⟨⟨b9, rfl, fun h => ⟨h5, hb9 h⟩⟩, rfl⟩
  · first | refine op_v (v_cmptA rfl rfl rfl) rfl ?_ | refine op_v (v_cmpfA rfl rfl rfl) rfl ?_ | refine op_v (v_cmp rfl rfl rfl) rfl ?_
    refine op_v (v_move rfl) rfl ?_
    first
      | (refine op_want rfl rfl ?_
         refine op_v (v_move rfl) rfl ?_)
      | (refine op_skip rfl rfl (by simp [undef]) rfl ?_)
    first
      | (refine op_want rfl rfl ?_
         refine op_call pl53 rfl rfl ((Terms_does (hv.mono Imm.leA))) Parts.none ?_
         rintro v8 I8 _ hI8 ⟨hs8, rfl⟩)
      | (refine op_skip rfl rfl (by simp [undef]) rfl ?_)
    first
      | (refine op_want rfl rfl ?_
         refine op_call pl52 rfl rfl ((Few5_does hs8)) Parts.none ?_
         rintro v9 I9 _ hI9 ⟨⟨b9, rfl, hb9⟩, rfl⟩)
      | (refine op_skip rfl rfl (by simp [undef]) rfl ?_)
    first | refine op_v (v_pickt rfl rfl) rfl ?_ | refine op_v (v_pickf rfl rfl) rfl ?_ | refine op_v (v_pickb rfl rfl rfl) rfl ?_
    refine op_v (v_assign rfl) rfl ?_
    refine ops_nil ?_
    refine post_next ?_
    refine code_ret ?_
    refine post_ret (rs := [.tmp 2]) rfl (List.Perm.refl _) (.cons (.tmp rfl) .nil) (List.nil_sublist _) ?_
    exact ⟨⟨false, rfl, fun h => by cases h⟩, rfl⟩
theorem FewC.sides {c : List Li} (h : FewC c) : ∀ x ∈ c, x.l.size ≤ 500 ∧ x.r.size ≤ 500 := fun x hx =>
  ⟨sizeL_getL h.2 _ (List.mem_flatMap.2 ⟨x, hx, by simp⟩), sizeL_getL h.2 _ (List.mem_flatMap.2 ⟨x, hx, by simp⟩)⟩
end Go.Proofs.Ythbcdffldcdfoaa
/- What a row's reading of a clause, and of a script of stores, says of the heap; plain facts, no condition. -/
set_option linter.unusedVariables false
set_option linter.unusedSimpArgs false
namespace Go.Proofs.Ythbcdffldcdfoaa
open Go Lg Go.ChangeShapes Go.WideShapes Go.ChangeAt Go.RowKit
variable {H : Type} {enc : TypeId × Value → H} {P : Program} {W : World} {spare : Nat → Bool} {held : Bool}
theorem cells_allC {a : Addr} {n : Nat} {cs : List Value} (h : W.cells? 0 a n = some cs) : cs.length = n ∧ ∀ j v, cs[j]? = some v → W.cell? (a.add j) = some v := by
  simp only [World.cells?, Nat.zero_le, if_true] at h
  have key : ∀ (l : List Nat) (cs : List Value), l.mapM (fun i => W.cell? (a.add i)) = some cs → cs.length = l.length ∧ ∀ (j : Nat) (v : Value), cs[j]? = some v → ∃ i : Nat, l[j]? = some i ∧ W.cell? (a.add i) = some v := by
    intro l
    induction l with
    | nil => intro cs h; simp at h; subst h; exact ⟨rfl, fun j v h => by simp at h⟩
    | cons i l ih =>
      intro cs h
      simp only [List.mapM_cons, Option.bind_eq_bind, Option.bind_eq_some_iff, Option.pure_def, Option.some.injEq] at h
      obtain ⟨u, hu, r, hr, rfl⟩ := h
      obtain ⟨h1, h2⟩ := ih r hr
      refine ⟨by simp [h1], fun j v hj => ?_⟩
      cases j with
      | zero => simp at hj; subst hj; exact ⟨i, rfl, hu⟩
      | succ j => simpa using h2 j v (by simpa using hj)
  obtain ⟨h1, h2⟩ := key _ _ h
  refine ⟨by simpa using h1, fun j v hj => ?_⟩
  obtain ⟨i, hi, hc⟩ := h2 j v hj
  have hlt : j < n := by have := (List.getElem?_eq_some_iff.1 hi).1; simpa using this
  rw [List.getElem?_range hlt] at hi
  cases hi
  exact hc
theorem rowE_of {n : Nat} {α : Type} {E : Elt n α} {I : Imm} {ad : Option Addr} : ∀ (al : List α) (vss : List (List Value)), vss.length = al.length → (∀ i (h : i < al.length) (h' : i < vss.length), E.R I al[i] vss[i] ∧ At I ad (i * n) vss[i]) → RowE E I vss.flatten al ∧ ∀ m, (∀ i (h' : i < vss.length), At I ad (m * n + i * n) vss[i]) → ∀ j v, vss.flatten[j]? = some v → I.cellO (ad.map (·.add (m * n + j))) = some v
  | [], vss, hl, h => by
    have : vss = [] := List.eq_nil_of_length_eq_zero hl
    subst this
    exact ⟨rfl, fun m _ j v hj => by simp at hj⟩
  | a :: al, [], hl, h => by simp at hl
  | a :: al, vs :: vss, hl, h => by
    have hl' : vss.length = al.length := by simpa using hl
    have h0 := h 0 (by simp) (by simp)
    have hn : vs.length = n := E.len h0.1
    refine ⟨⟨vs, vss.flatten, rfl, h0.1, ?_⟩, ?_⟩
    · have key : ∀ (al : List α) (vss : List (List Value)), vss.length = al.length → (∀ i (h : i < al.length) (h' : i < vss.length), E.R I al[i] vss[i]) → RowE E I vss.flatten al := by
        intro al
        induction al with
        | nil => intro vss hl _; have : vss = [] := List.eq_nil_of_length_eq_zero hl; subst this; rfl
        | cons a al ih =>
          intro vss hl h
          rcases vss with _ | ⟨vs, vss⟩
          · simp at hl
          · exact ⟨vs, vss.flatten, rfl, h 0 (by simp) (by simp), ih vss (by simpa using hl) fun i h1 h2 => h (i + 1) (by simpa using h1) (by simpa using h2)⟩
      exact key al vss hl' fun i h1 h2 => (h (i + 1) (by simpa using h1) (by simpa using h2)).1
    · intro m hm j v hj
      have key : ∀ (vss : List (List Value)) (m : Nat), (∀ vs ∈ vss, vs.length = n) → (∀ i (h' : i < vss.length), At I ad (m * n + i * n) vss[i]) → ∀ j v, vss.flatten[j]? = some v → I.cellO (ad.map (·.add (m * n + j))) = some v := by
        intro vss
        induction vss with
        | nil => intro m _ _ j v hj; simp at hj
        | cons vs vss ih =>
          intro m hlen hm j v hj
          rw [List.flatten_cons] at hj
          have hvl := hlen vs (List.mem_cons_self ..)
          by_cases q : j < vs.length
          · rw [List.getElem?_append_left q] at hj
            have := hm 0 (by simp) j v hj
            simpa using this
          · rw [List.getElem?_append_right (by omega)] at hj
            have := ih (m + 1) (fun ws hw => hlen ws (List.mem_cons_of_mem _ hw)) (fun i h' => by
              have := hm (i + 1) (by simpa using h')
              rw [Nat.succ_mul] at this ⊢
              rw [show m * n + n + i * n = m * n + (i * n + n) by omega]
              simpa using this) (j - vs.length) v hj
            rw [Nat.succ_mul, show m * n + n + (j - vs.length) = m * n + j by omega] at this
            exact this
      have hlen : ∀ ws ∈ vs :: vss, ws.length = n := by
        intro ws hw
        obtain ⟨i, hi, rfl⟩ := List.getElem_of_mem hw
        exact E.len (h i (by rw [← hl]; exact hi) hi).1
      exact key (vs :: vss) m hlen hm j v hj
theorem repE_of {n : Nat} {α : Type} {E : Elt n α} {I : Imm} {ad : Option Addr} {c : Nat} (al : List α) (hc : al.length ≤ c) (hb : al.length ≤ 1954687338211) (h : ∀ i (h : i < al.length), ∃ vs, E.R I al[i] vs ∧ At I ad (i * n) vs) : RepE E I (.slice ad al.length c) al := by
  have hex : ∃ vss : List (List Value), vss.length = al.length ∧ ∀ i (h : i < al.length) (h' : i < vss.length), E.R I al[i] vss[i] ∧ At I ad (i * n) vss[i] := by
    classical
    refine ⟨(List.range al.length).map fun i => if h' : i < al.length then (h i h').choose else [], by simp, fun i h1 h2 => ?_⟩
    rw [List.getElem_map, List.getElem_range, dif_pos h1]
    exact (h i h1).choose_spec
  obtain ⟨vss, hl, hv⟩ := hex
  obtain ⟨h1, h2⟩ := rowE_of al vss hl hv
  refine ⟨ad, c, vss.flatten, rfl, hc, hb, fun j v hj => ?_, h1⟩
  have := h2 0 (fun i h' => by simpa using (hv i (by rw [← hl]; exact h') h').2) j v hj
  simpa using this
structure ClLay (P : Program) (tC tL tT tTs tI tb : TypeId) : Prop where
  lit : LiLay P tL tT tTs tI tb
  sl : P.underlying tC = some (.slice tL)
  bL : P.bytesOf tL = 72
theorem openCl {tC tL tT tTs tI tb : TypeId} (ly : ClLay P tC tL tT tTs tI tb) {fuel : Nat} {cs : List Value} {x : DataW H × List MemPlace} (h1 : DataW.trod enc P W 0 spare held fuel tC cs = some x) (hw : (x.1.weights P tC).all (· ≤ reachBytes) = true) : ∃ (a : Option Addr) (k : Nat) (c : List Li), cs = [.slice a c.length k] ∧ RepC (hImm W) (.slice a c.length k) c := by
  rcases DataW.trod_slice ly.sl h1 with ⟨hcs, _⟩ | ⟨a, len, cap, elems, rest, n', rfl, hcs, hd, _, hl, hm, hlen, hel, hsp, _⟩
  · exact ⟨none, 0, [], by simpa using hcs, RepE.nil⟩
  · obtain ⟨x1, x2⟩ := x
    obtain ⟨rfl, _⟩ := Prod.mk.inj hd
    simp only [DataW.weights, ly.sl, ly.bL, List.all_cons, List.all_append, Bool.and_eq_true, decide_eq_true_eq] at hw
    obtain ⟨hwl, hwe, _⟩ := hw
    have hwe' := weights_all hwe
    have hrb : reachBytes = 140737488351232 := rfl
    simp only [List.length_map, hlen] at hwl
    have hall : ∀ i, i < len → ∃ y : Li, ∃ vs, LitE.R (hImm W) y vs ∧ At (hImm W) (some a) (i * 5) vs := by
      intro i hi
      have hy := hel i hi
      rw [ly.lit.cL] at hy
      have hie : elems[i]? = some elems[i] := List.getElem?_eq_getElem (by omega)
      rw [hie, Option.bind_eq_some_iff] at hy
      obtain ⟨cs', hcs', htr⟩ := hy
      obtain ⟨_, hca⟩ := cells_allC hcs'
      obtain ⟨y, la, ra, lc, rc, rfl, h1, h2⟩ := openLi ly.lit htr (hwe' _ (List.mem_map.2 ⟨_, List.getElem_mem (by omega), rfl⟩))
      refine ⟨y, _, ⟨la, lc, ra, rc, rfl, h1, h2⟩, fun j v hj => ?_⟩
      have := hca j v hj
      rw [add_add] at this
      exact this
    obtain ⟨c, hcl, hc2⟩ := pick_list hall
    subst hcl
    exact ⟨some a, cap, c, by simpa using hcs, repE_of c hl (by omega) hc2⟩
theorem openCv {tC tL tT tTs tI tb : TypeId} (ly : ClLay P tC tL tT tTs tI tb) {v : Value} {d : DataW H} {ps : List MemPlace} (h : DataW.Trod enc P W 0 spare held tC v d ps) (hw : (d.weights P tC).all (· ≤ reachBytes) = true) (hv : ∃ a l c, v = .slice a l c) : ∃ c, RepC (hImm W) v c := by
  obtain ⟨a, l, c, rfl⟩ := hv
  obtain ⟨fuel, h1⟩ := h
  obtain ⟨a', k, cl, hcs, hr⟩ := openCl ly h1 hw
  simp [Value.cells] at hcs
  obtain ⟨rfl, rfl, rfl⟩ := hcs
  exact ⟨cl, hr⟩
end Go.Proofs.Ythbcdffldcdfoaa
/- Walks: what is ranged over: a row from behind, a term's parts. -/
set_option linter.unusedVariables false
set_option linter.unusedSimpArgs false
/- short -/
namespace Go.Proofs.Ythbcdffldcdfoaa
open Go Lg

def encB (ts : List T) (ss : Nat → Option Addr × Nat) (_ : Imm) (i : Nat) (vs : List Value) : Prop :=
  ∃ hi : i < ts.length, vs = [.int .i64 i, .agg #[.int .i64 ts[i].head, .slice (ss i).1 ts[i].args.length (ss i).2]]
end Go.Proofs.Ythbcdffldcdfoaa
/- Walk: a term's parts, ranged over. -/
set_option linter.unusedVariables false
set_option linter.unusedSimpArgs false
/- short -/
namespace Go.Proofs.Ythbcdffldcdfoaa
open Go Lg

theorem Lg.OpsJ.rowSome {C : Ctx} {Q : Exit → Act → World → Prop} {σ : Env} {ds : List Nat} {I : Imm} {δ : List Ent} {ops : Array Oper} {rest : List Oper} {A : Option Addr} {c n size : Nat} {e : TypeId} {xs : List Value} (hd : Has δ (.row (.slice A n c) e size n xs)) (hn : 0 < n)
    (h : A.isSome = true → n ≤ c → OpsJ C ops Q rest σ ds I δ) : OpsJ C ops Q rest σ ds I δ := by
  intro a w he hs ht
  have hr : w.ownsRow 0 e size (.slice A n c) n xs := hs.ents _ hd.mem
  rcases hr.2 with ⟨h1, h2⟩ | ⟨g, cap, cur, h1, _, _, h3, _⟩
  · omega
  · cases h1
    exact h rfl h3 a w he hs ht

theorem partsT_eq (d : Nat) (u : T) : partsT d u = (d, u) :: partsL (d + 1) u.args := by cases u; rfl
def encP (I : Imm) (x : Nat × T) (vs : List Value) : Prop :=
  ∃ a c, vs = [.int .i64 x.1, .agg #[.int .i64 x.2.head, .slice a x.2.args.length c]] ∧ RepT I (.agg #[.int .i64 x.2.head, .slice a x.2.args.length c]) x.2

end Go.Proofs.Ythbcdffldcdfoaa
/- Walks: size, depth, variables and rightness of a term, by the program. -/
set_option linter.unusedVariables false
set_option linter.unusedSimpArgs false
/- short -/
namespace Go.Proofs.Ythbcdffldcdfoaa
open Go Lg

/-! ### models -/
mutual
def depT : T → Nat
  | .mk _ ts => 1 + depL ts
def depL : List T → Nat
  | [] => 0
  | t :: r => max (depT t) (depL r)
end
def deepP (l : List (Nat × T)) : Nat := l.foldl (fun m x => max m x.1) 0
theorem deepP_snoc (l : List (Nat × T)) (x : Nat × T) : deepP (l ++ [x]) = max (deepP l) x.1 := by simp [deepP]
theorem foldl_max (l : List (Nat × T)) (m : Nat) : l.foldl (fun m x => max m x.1) m = max m (deepP l) := by
  induction l generalizing m with
  | nil => simp [deepP]
  | cons x r ih => rw [deepP, List.foldl_cons, List.foldl_cons, ih, ih]; omega
theorem deepP_app (l r : List (Nat × T)) : deepP (l ++ r) = max (deepP l) (deepP r) := by rw [deepP, List.foldl_append, foldl_max]; rfl
theorem deepP_cons (x : Nat × T) (r : List (Nat × T)) : deepP (x :: r) = max x.1 (deepP r) := by rw [deepP, List.foldl_cons, foldl_max]; omega
mutual
theorem deepP_T : ∀ (d : Nat) (t : T), deepP (partsT d t) + 1 = d + depT t
  | d, .mk h ts => by
    rw [partsT, deepP_cons]
    have := deepP_L (d + 1) ts
    simp only [depT]
    rcases this with ⟨rfl, h1⟩ | h1
    · simp [partsL, deepP, depL]
    · omega
theorem deepP_L : ∀ (d : Nat) (ts : List T), (ts = [] ∧ deepP (partsL d ts) = 0) ∨ deepP (partsL d ts) + 1 = d + depL ts
  | d, [] => .inl ⟨rfl, rfl⟩
  | d, t :: r => by
    right
    rw [partsL, deepP_app]
    have h1 := deepP_T d t
    have hd : 1 ≤ depT t := by cases t; simp [depT]
    simp only [depL]
    rcases deepP_L d r with ⟨hr, h2⟩ | h2
    · subst hr
      have h3 : depL ([] : List T) = 0 := by simp [depL]
      rw [h2, h3]; omega
    · omega
end
theorem dep_deep (t : T) : deepP (partsT 1 t) = depT t := by have := deepP_T 1 t; omega
mutual
theorem depT_size : ∀ t : T, depT t ≤ t.size
  | .mk h ts => by have := depL_size ts; simp [depT, T.size]; omega
theorem depL_size : ∀ ts : List T, depL ts ≤ sizeL ts
  | [] => by simp [depL, sizeL]
  | t :: r => by have := depT_size t; have := depL_size r; simp [depL, sizeL]; omega
end

end Go.Proofs.Ythbcdffldcdfoaa
/- Walks: a number among others; variables and rightness of a term; comparisons of numbers. -/
set_option linter.unusedVariables false
set_option linter.unusedSimpArgs false
/- short -/
namespace Go.Proofs.Ythbcdffldcdfoaa
open Go Lg

theorem ld_at {cs : List Value} {o : Nat} {x : Value} (h : cs[o]? = some x) : ld false 1 (cs.drop o) = some x := by
  obtain ⟨hl, rfl⟩ := List.getElem?_eq_some_iff.1 h
  rw [List.drop_eq_getElem_cons hl]; rfl
abbrev iRow (ar : Option Addr) (cr : Nat) (xs : List Int) : Ent := .row (.slice ar xs.length cr) 3 1 xs.length (xs.map (Value.int .i64))
theorem Index_does {I : Imm} {ar : Option Addr} {cr : Nat} {xs : List Int} {x : Int} (hb : xs.length ≤ 1000000000) :
    Does Try.prog 61 [.slice ar xs.length cr, .int .i64 x] I [iRow ar cr xs] (fun v I' δ' => (∃ n : Int, v = .int .i64 n ∧ (0 ≤ n ↔ x ∈ xs)) ∧ δ' = [iRow ar cr xs]) := by
  refine Does.intro Try.func61 rfl Try.ntmps61 rfl fun w0 => ?_
  refine code_seq ?_
  refine code_region ?_
  refine op_v (v_assign rfl) rfl ?_
  refine ops_nil ?_
  refine post_next ?_
  refine code_seq ?_
  refine code_seq ?_
  refine code_region ?_
  refine op_v (v_move rfl) rfl ?_
  refine op_v (v_len Try.underlying28 rfl) rfl ?_
  refine op_v (v_move rfl) rfl ?_
  refine ops_nil ?_
  refine post_next ?_
  refine code_block ?_
  refine code_loop (fun m σ' I' δ' => ∃ k : Nat, m = xs.length - k ∧ σ' = [(0, .slice ar xs.length cr), (1, .int .i64 x), (7, .int .i64 xs.length), (8, .int .i64 k)] ∧ I' = I ∧ δ' = [iRow ar cr xs] ∧ k ≤ xs.length ∧ x ∉ xs.take k) (xs.length - 0) [(0, .slice ar xs.length cr), (1, .int .i64 x), (7, .int .i64 xs.length), (8, .int .i64 (0 : Nat))] ⟨0, rfl, rfl, rfl, rfl, ⟨Nat.zero_le _, by simp⟩⟩ ⟨rfl, rfl, rfl, rfl, trivial⟩ ?_
  rintro m _ _ _ ⟨k, rfl, rfl, rfl, rfl, hp⟩
  obtain ⟨hk, hp⟩ := hp
  refine code_seq ?_
  refine code_region ?_
  first | refine op_v (v_cmptA rfl rfl rfl) rfl ?_ | refine op_v (v_cmpfA rfl rfl rfl) rfl ?_ | refine op_v (v_cmp rfl rfl rfl) rfl ?_
  refine ops_nil ?_
  refine post_next ?_
  refine code_seq ?_
  refine code_cond rfl (fun hc0 => ?_) (fun hc0 => ?_)
  · have hlt : k < xs.length := by simpa using hc0
    refine code_skip ?_
    refine post_next ?_
    refine code_seq ?_
    refine code_block ?_
    refine code_seq ?_
    refine code_region ?_
    refine op_v (v_move rfl) rfl ?_
    refine op_v (v_assign rfl) rfl ?_
    refine ops_nil ?_
    refine post_next ?_
    refine code_seq ?_
    refine code_region ?_
    refine OpsJ.rowSome Has.here (by omega) (fun hA hcr => ?_)
    refine op_v (v_move rfl) rfl ?_
    refine op_v (v_move rfl) rfl ?_
    refine op_v (v_move rfl) rfl ?_
    first | refine op_v (v_indexA Try.underlying28 sz3 rfl rfl) rfl ?_ | refine op_v (v_indexIA Try.underlying28 sz3 rfl rfl) rfl ?_
    refine op_v (v_loadRow ty3 rfl Has.here hA (ld_at (x := .int .i64 xs[k]) (by simp [hlt]))) rfl ?_
    first | refine op_v (v_cmptA rfl rfl rfl) rfl ?_ | refine op_v (v_cmpfA rfl rfl rfl) rfl ?_ | refine op_v (v_cmp rfl rfl rfl) rfl ?_
    refine ops_nil ?_
    refine post_next ?_
    refine code_cond rfl (fun hc1 => ?_) (fun hc1 => ?_)
    · have heq : x = xs[k] := by simpa using hc1
      refine code_seq ?_
      refine code_region ?_
      refine op_v (v_move rfl) rfl ?_
      refine op_v (v_assign rfl) rfl ?_
      refine ops_nil ?_
      refine post_next ?_
      refine code_ret ?_
      refine post_ret_block ?_
      refine post_ret_then ?_
      refine post_ret_then ?_
      refine post_ret_block ?_
      refine post_ret_then ?_
      refine post_ret (rs := [.tmp 4]) rfl (List.Perm.refl _) (.cons (.tmp rfl) .nil) (List.Sublist.refl _) ?_
      exact ⟨⟨k, rfl, by rw [heq]; simp⟩, rfl⟩
    · have hne : x ≠ xs[k] := by simpa using hc1
      refine code_skip ?_
      refine post_out ?_
      refine post_next ?_
      refine code_region ?_
      first | refine op_v (v_addb rfl rfl rfl (by omega)) rfl ?_ | refine op_v (v_add rfl rfl) rfl ?_
      refine op_v (v_move rfl) rfl ?_
      refine ops_nil ?_
      refine post_again (xs.length - (k + 1)) [(0, .slice ar xs.length cr), (1, .int .i64 x), (7, .int .i64 xs.length), (8, .int .i64 (k + 1 : Nat))] (by omega) ⟨k + 1, rfl, rfl, rfl, rfl, ⟨hlt, by rw [List.take_succ_eq_append_getElem hlt, List.mem_append, List.mem_singleton]; exact fun h => h.elim hp hne⟩⟩ ⟨rfl, rfl, rfl, rfl, trivial⟩
  · have hge : k = xs.length := by simp at hc0; omega
    subst hge
    rw [List.take_length] at hp
    refine code_exit ?_
    refine post_exit_then ?_
    refine post_exit_then ?_
    refine post_exit ?_
    refine post_next ?_
    refine code_seq ?_
    refine code_region ?_
    refine op_v (v_assign rfl) rfl ?_
    refine ops_nil ?_
    refine post_next ?_
    refine code_ret ?_
    refine post_ret (rs := [.tmp 4]) rfl (List.Perm.refl _) (.cons (.tmp rfl) .nil) (List.Sublist.refl _) ?_
    exact ⟨⟨-1, rfl, by simp [hp]⟩, rfl⟩
theorem Contains_does {I : Imm} {ar : Option Addr} {cr : Nat} {xs : List Int} {x : Int} (hb : xs.length ≤ 1000000000) :
    Does Try.prog 45 [.slice ar xs.length cr, .int .i64 x] I [iRow ar cr xs] (fun v I' δ' => v = .bool (decide (x ∈ xs)) ∧ δ' = [iRow ar cr xs]) := by
  refine Does.intro Try.func45 rfl Try.ntmps45 rfl fun w0 => ?_
  refine code_seq ?_
  refine code_region ?_
  refine op_v (v_assign rfl) rfl ?_
  refine ops_nil ?_
  refine post_next ?_
  refine code_seq ?_
  refine code_region ?_
  refine op_v (v_move rfl) rfl ?_
  refine op_v (v_move rfl) rfl ?_
  refine op_call pl61 rfl rfl ((Index_does hb)) Parts.all ?_
  rintro v7 I7 _ hI7 ⟨⟨n7, rfl, hn7⟩, rfl⟩
  first | refine op_v (v_cmptA rfl rfl rfl) rfl ?_ | refine op_v (v_cmpfA rfl rfl rfl) rfl ?_ | refine op_v (v_cmp rfl rfl rfl) rfl ?_
  refine op_v (v_assign rfl) rfl ?_
  refine ops_nil ?_
  refine post_next ?_
  refine code_ret ?_
  refine post_ret (rs := [.tmp 4]) rfl (List.Perm.refl _) (.cons (.tmp rfl) .nil) (List.Sublist.refl _) ?_
  exact ⟨bool_b (by simp [hn7]), rfl⟩

theorem isNaN_does {I : Imm} {x : Int} : Does Try.prog 67 [.int .i64 x] I [] (fun v I' δ' => v = .bool false ∧ δ' = []) := by
  refine Does.intro Try.func67 rfl Try.ntmps67 rfl fun w0 => ?_
  refine code_seq ?_
  refine code_region ?_
  refine op_v (v_assign rfl) rfl ?_
  refine ops_nil ?_
  refine post_next ?_
  refine code_seq ?_
  refine code_region ?_
  refine op_v (v_move rfl) rfl ?_
  refine op_v (v_move rfl) rfl ?_
  first | refine op_v (v_cmptA rfl rfl rfl) rfl ?_ | refine op_v (v_cmpfA rfl rfl rfl) rfl ?_ | refine op_v (v_cmp rfl rfl rfl) rfl ?_
  refine op_v (v_assign rfl) rfl ?_
  refine ops_nil ?_
  refine post_next ?_
  refine code_ret ?_
  refine post_ret (rs := [.tmp 2]) rfl (List.Perm.refl _) (.cons (.tmp rfl) .nil) (List.nil_sublist _) ?_
  exact ⟨bool_b (by simp), rfl⟩
theorem cmpC_does {I : Imm} {a b : Int} : Does Try.prog 66 [.int .i64 a, .int .i64 b] I [] (fun v I' δ' => v = .int .i64 (ordI a b) ∧ δ' = []) := by
  refine Does.intro Try.func66 rfl Try.ntmps66 rfl fun w0 => ?_
  refine code_seq ?_
  refine code_region ?_
  refine op_v (v_assign rfl) rfl ?_
  refine ops_nil ?_
  refine post_next ?_
  refine code_seq ?_
  refine code_region ?_
  refine op_v (v_move rfl) rfl ?_
  refine op_call pl67 rfl rfl ((isNaN_does)) Parts.none ?_
  rintro v8 I8 _ hI8 ⟨rfl, rfl⟩
  refine op_v (v_assign rfl) rfl ?_
  refine ops_nil ?_
  refine post_next ?_
  refine code_seq ?_
  refine code_region ?_
  refine op_v (v_move rfl) rfl ?_
  refine op_call pl67 rfl rfl ((isNaN_does)) Parts.none ?_
  rintro v10 I10 _ hI10 ⟨rfl, rfl⟩
  refine op_v (v_assign rfl) rfl ?_
  refine ops_nil ?_
  refine post_next ?_
  refine code_seq ?_
  refine code_seq ?_
  refine code_region ?_
  refine op_v (v_move rfl) rfl ?_
  refine ops_nil ?_
  refine post_next ?_
  refine code_cond_f rfl ?_
  refine code_skip ?_
  refine post_next ?_
  refine code_seq ?_
  refine code_seq ?_
  refine code_region ?_
  refine op_v (v_move rfl) rfl ?_
  refine ops_nil ?_
  refine post_next ?_
  refine code_cond_f rfl ?_
  refine code_skip ?_
  refine post_next ?_
  refine code_seq ?_
  refine code_seq ?_
  refine code_region ?_
  refine op_v (v_move rfl) rfl ?_
  refine op_v (v_move rfl) rfl ?_
  first | refine op_v (v_cmptA rfl rfl rfl) rfl ?_ | refine op_v (v_cmpfA rfl rfl rfl) rfl ?_ | refine op_v (v_cmp rfl rfl rfl) rfl ?_
  refine ops_nil ?_
  refine post_next ?_
  refine code_cond rfl (fun hc3 => ?_) (fun hc3 => ?_)
  · have h1 : a < b := by simpa using hc3
    refine code_seq ?_
    refine code_region ?_
    refine op_v (v_assign rfl) rfl ?_
    refine ops_nil ?_
    refine post_next ?_
    refine code_ret ?_
    refine post_ret_then ?_
    refine post_ret (rs := [.tmp 4]) rfl (List.Perm.refl _) (.cons (.tmp rfl) .nil) (List.nil_sublist _) ?_
    exact ⟨by simp [outV, ordI, h1], rfl⟩
  · have h1 : ¬ a < b := by simpa using hc3
    refine code_skip ?_
    refine post_next ?_
    refine code_seq ?_
    refine code_seq ?_
    refine code_region ?_
    refine op_v (v_move rfl) rfl ?_
    refine op_v (v_move rfl) rfl ?_
    first | refine op_v (v_cmptA rfl rfl rfl) rfl ?_ | refine op_v (v_cmpfA rfl rfl rfl) rfl ?_ | refine op_v (v_cmp rfl rfl rfl) rfl ?_
    refine ops_nil ?_
    refine post_next ?_
    refine code_cond rfl (fun hc4 => ?_) (fun hc4 => ?_)
    · have h2 : b < a := by simpa using hc4
      refine code_seq ?_
      refine code_region ?_
      refine op_v (v_assign rfl) rfl ?_
      refine ops_nil ?_
      refine post_next ?_
      refine code_ret ?_
      refine post_ret_then ?_
      refine post_ret (rs := [.tmp 4]) rfl (List.Perm.refl _) (.cons (.tmp rfl) .nil) (List.nil_sublist _) ?_
      exact ⟨by simp [outV, ordI, h1, h2], rfl⟩
    · have h2 : ¬ b < a := by simpa using hc4
      refine code_skip ?_
      refine post_next ?_
      refine code_seq ?_
      refine code_region ?_
      refine op_v (v_assign rfl) rfl ?_
      refine ops_nil ?_
      refine post_next ?_
      refine code_ret ?_
      refine post_ret (rs := [.tmp 4]) rfl (List.Perm.refl _) (.cons (.tmp rfl) .nil) (List.nil_sublist _) ?_
      exact ⟨by simp [outV, ordI, h1, h2], rfl⟩
def orI : List Int → Int
  | [] => 0
  | x :: r => if x ≠ 0 then x else orI r
theorem Or_does {I : Imm} {v : Value} {xs : List Int} (h : RInts I v xs) : Does Try.prog 65 [v] I [] (fun v I' δ' => v = .int .i64 (orI xs) ∧ δ' = []) := by
  obtain ⟨ad, c, xs, hc, hb, hat, hr⟩ := h
  refine Does.intro Try.func65 rfl Try.ntmps65 rfl fun w0 => ?_
  refine code_seq ?_
  refine code_region ?_
  refine op_v (v_assign rfl) rfl ?_
  refine ops_nil ?_
  refine post_next ?_
  refine code_seq ?_
  refine code_region ?_
  refine op_v (v_assign rfl) rfl ?_
  refine ops_nil ?_
  refine post_next ?_
  refine code_seq ?_
  refine code_seq ?_
  refine code_region ?_
  refine op_v (v_move rfl) rfl ?_
  refine op_v (v_len Try.underlying28 rfl) rfl ?_
  refine op_v (v_move rfl) rfl ?_
  refine ops_nil ?_
  refine post_next ?_
  refine code_block ?_
  refine code_loop (fun m σ' I' δ' => ∃ k : Nat, m = xs.length - k ∧ σ' = [(3, .int .i64 0), (6, .slice ad xs.length c), (7, .int .i64 xs.length), (8, .int .i64 k)] ∧ I' = I ∧ δ' = [] ∧ k ≤ xs.length ∧ orI xs = orI (xs.drop k)) (xs.length - 0) [(3, .int .i64 0), (6, .slice ad xs.length c), (7, .int .i64 xs.length), (8, .int .i64 (0 : Nat))] ⟨0, rfl, rfl, rfl, rfl, ⟨Nat.zero_le _, rfl⟩⟩ ⟨rfl, rfl, rfl, rfl, trivial⟩ ?_
  rintro m _ _ _ ⟨k, rfl, rfl, rfl, rfl, hp⟩
  obtain ⟨hk, hp⟩ := hp
  refine code_seq ?_
  refine code_region ?_
  first | refine op_v (v_cmptA rfl rfl rfl) rfl ?_ | refine op_v (v_cmpfA rfl rfl rfl) rfl ?_ | refine op_v (v_cmp rfl rfl rfl) rfl ?_
  refine ops_nil ?_
  refine post_next ?_
  refine code_seq ?_
  refine code_cond rfl (fun hc0 => ?_) (fun hc0 => ?_)
  · have hlt : k < xs.length := by simpa using hc0
    have hs1 := ints_some hat k hlt
    rw [List.drop_eq_getElem_cons hlt] at hp
    refine code_skip ?_
    refine post_next ?_
    refine code_seq ?_
    refine code_block ?_
    refine code_seq ?_
    refine code_region ?_
    first | refine op_v (v_indexA Try.underlying28 sz3 rfl rfl) rfl ?_ | refine op_v (v_indexIA Try.underlying28 sz3 rfl rfl) rfl ?_
    first | refine op_v (v_loadI0 ty3 (ints_at hat k hlt) rfl rfl rfl) rfl ?_ | refine op_v (v_loadI ty3 (ints_at hat k hlt) rfl rfl rfl) rfl ?_
    refine op_v (v_assign rfl) rfl ?_
    refine ops_nil ?_
    refine post_next ?_
    refine code_seq ?_
    refine code_region ?_
    refine op_v (v_move rfl) rfl ?_
    refine op_v (v_move rfl) rfl ?_
    first | refine op_v (v_cmptA rfl rfl rfl) rfl ?_ | refine op_v (v_cmpfA rfl rfl rfl) rfl ?_ | refine op_v (v_cmp rfl rfl rfl) rfl ?_
    refine ops_nil ?_
    refine post_next ?_
    refine code_cond rfl (fun hc1 => ?_) (fun hc1 => ?_)
    · have hne : xs[k] ≠ 0 := by simpa using hc1
      refine code_seq ?_
      refine code_region ?_
      refine op_v (v_move rfl) rfl ?_
      refine op_v (v_assign rfl) rfl ?_
      refine ops_nil ?_
      refine post_next ?_
      refine code_ret ?_
      refine post_ret_block ?_
      refine post_ret_then ?_
      refine post_ret_then ?_
      refine post_ret_block ?_
      refine post_ret_then ?_
      refine post_ret (rs := [.tmp 2]) rfl (List.Perm.refl _) (.cons (.tmp rfl) .nil) (List.nil_sublist _) ?_
      exact ⟨by simp [outV, hp, orI, hne], rfl⟩
    · have heq : xs[k] = 0 := by simpa using hc1
      refine code_skip ?_
      refine post_out ?_
      refine post_next ?_
      refine code_region ?_
      first | refine op_v (v_addb rfl rfl rfl (by omega)) rfl ?_ | refine op_v (v_add rfl rfl) rfl ?_
      refine op_v (v_move rfl) rfl ?_
      refine ops_nil ?_
      refine post_again (xs.length - (k + 1)) [(3, .int .i64 0), (6, .slice ad xs.length c), (7, .int .i64 xs.length), (8, .int .i64 (k + 1 : Nat))] (by omega) ⟨k + 1, rfl, rfl, rfl, rfl, ⟨hlt, by rw [hp]; simp [orI, heq]⟩⟩ ⟨rfl, rfl, rfl, rfl, trivial⟩
  · have hge : k = xs.length := by simp at hc0; omega
    subst hge
    rw [List.drop_length] at hp
    refine code_exit ?_
    refine post_exit_then ?_
    refine post_exit_then ?_
    refine post_exit ?_
    refine post_next ?_
    refine code_seq ?_
    refine code_region ?_
    refine op_v (v_move rfl) rfl ?_
    refine op_v (v_assign rfl) rfl ?_
    refine ops_nil ?_
    refine post_next ?_
    refine code_ret ?_
    refine post_ret (rs := [.tmp 2]) rfl (List.Perm.refl _) (.cons (.tmp rfl) .nil) (List.nil_sublist _) ?_
    exact ⟨by simp [outV, hp, orI], rfl⟩
theorem In_does {I : Imm} {ar : Option Addr} {cr : Nat} {xs : List Int} {x : Int} (hb : xs.length ≤ 1000000000) :
    Does Try.prog 19 [.int .i64 x, .slice ar xs.length cr] I [iRow ar cr xs] (fun v I' δ' => v = .bool (decide (x ∈ xs)) ∧ δ' = [iRow ar cr xs]) := by
  refine Does.intro Try.func19 rfl Try.ntmps19 rfl fun w0 => ?_
  refine code_seq ?_
  refine code_region ?_
  refine op_v (v_assign rfl) rfl ?_
  refine ops_nil ?_
  refine post_next ?_
  refine code_seq ?_
  refine code_seq ?_
  refine code_region ?_
  refine op_v (v_assign rfl) rfl ?_
  refine ops_nil ?_
  refine post_next ?_
  refine code_block ?_
  refine code_loop (fun m σ' I' δ' => ∃ k : Nat, m = xs.length - k ∧ σ' = [(0, .int .i64 x), (1, .slice ar xs.length cr), (5, .int .i64 k)] ∧ I' = I ∧ δ' = [iRow ar cr xs] ∧ k ≤ xs.length ∧ x ∉ xs.take k) (xs.length - 0) [(0, .int .i64 x), (1, .slice ar xs.length cr), (5, .int .i64 (0 : Nat))] ⟨0, rfl, rfl, rfl, rfl, ⟨Nat.zero_le _, by simp⟩⟩ ⟨rfl, rfl, rfl, trivial⟩ ?_
  rintro m _ _ _ ⟨k, rfl, rfl, rfl, rfl, hp⟩
  obtain ⟨hk, hp⟩ := hp
  refine code_seq ?_
  refine code_seq ?_
  refine code_region ?_
  refine op_v (v_move rfl) rfl ?_
  refine op_v (v_move rfl) rfl ?_
  refine op_v (v_len Try.underlying28 rfl) rfl ?_
  first | refine op_v (v_cmptA rfl rfl rfl) rfl ?_ | refine op_v (v_cmpfA rfl rfl rfl) rfl ?_ | refine op_v (v_cmp rfl rfl rfl) rfl ?_
  refine ops_nil ?_
  refine post_next ?_
  refine code_cond rfl (fun hc0 => ?_) (fun hc0 => ?_)
  · have hlt : k < xs.length := by simpa using hc0
    refine code_skip ?_
    refine post_next ?_
    refine code_seq ?_
    refine code_block ?_
    refine code_seq ?_
    refine code_region ?_
    refine OpsJ.rowSome Has.here (by omega) (fun hA hcr => ?_)
    refine op_v (v_move rfl) rfl ?_
    refine op_v (v_move rfl) rfl ?_
    first | refine op_v (v_indexA Try.underlying28 sz3 rfl rfl) rfl ?_ | refine op_v (v_indexIA Try.underlying28 sz3 rfl rfl) rfl ?_
    refine op_v (v_loadRow ty3 rfl Has.here hA (ld_at (x := .int .i64 xs[k]) (by simp [hlt]))) rfl ?_
    refine op_v (v_move rfl) rfl ?_
    first | refine op_v (v_cmptA rfl rfl rfl) rfl ?_ | refine op_v (v_cmpfA rfl rfl rfl) rfl ?_ | refine op_v (v_cmp rfl rfl rfl) rfl ?_
    refine ops_nil ?_
    refine post_next ?_
    refine code_cond rfl (fun hc1 => ?_) (fun hc1 => ?_)
    · have heq : xs[k] = x := by simpa using hc1
      refine code_seq ?_
      refine code_region ?_
      refine op_v (v_assign rfl) rfl ?_
      refine ops_nil ?_
      refine post_next ?_
      refine code_ret ?_
      refine post_ret_block ?_
      refine post_ret_then ?_
      refine post_ret_then ?_
      refine post_ret_block ?_
      refine post_ret_then ?_
      refine post_ret (rs := [.tmp 4]) rfl (List.Perm.refl _) (.cons (.tmp rfl) .nil) (List.Sublist.refl _) ?_
      exact ⟨by rw [show decide (x ∈ xs) = true by simp [← heq]]; rfl, rfl⟩
    · have hne : x ≠ xs[k] := by have h := hc1; simp at h; exact fun e => h e.symm
      refine code_skip ?_
      refine post_out ?_
      refine post_next ?_
      refine code_region ?_
      refine op_v (v_move rfl) rfl ?_
      first | refine op_v (v_addb rfl rfl rfl (by omega)) rfl ?_ | refine op_v (v_add rfl rfl) rfl ?_
      refine op_v (v_assign rfl) rfl ?_
      refine ops_nil ?_
      refine post_again (xs.length - (k + 1)) [(0, .int .i64 x), (1, .slice ar xs.length cr), (5, .int .i64 (k + 1 : Nat))] (by omega) ⟨k + 1, rfl, rfl, rfl, rfl, ⟨hlt, by rw [List.take_succ_eq_append_getElem hlt, List.mem_append, List.mem_singleton]; exact fun h => h.elim hp hne⟩⟩ ⟨rfl, rfl, rfl, trivial⟩
  · have hge : k = xs.length := by simp at hc0; omega
    subst hge
    rw [List.take_length] at hp
    refine code_exit ?_
    refine post_exit_then ?_
    refine post_exit_then ?_
    refine post_exit ?_
    refine post_next ?_
    refine code_seq ?_
    refine code_region ?_
    refine op_v (v_assign rfl) rfl ?_
    refine ops_nil ?_
    refine post_next ?_
    refine code_ret ?_
    refine post_ret (rs := [.tmp 4]) rfl (List.Perm.refl _) (.cons (.tmp rfl) .nil) (List.Sublist.refl _) ?_
    exact ⟨by rw [show decide (x ∈ xs) = false by simp [hp]]; rfl, rfl⟩
end Go.Proofs.Ythbcdffldcdfoaa
/- Walks: clauses in memory of their own; whether one of some numbers is so. -/
set_option linter.unusedVariables false
set_option linter.unusedSimpArgs false
set_option linter.unnecessarySimpa false
/- short -/
namespace Go.Proofs.Ythbcdffldcdfoaa
open Go Lg

theorem rowsT_rowE {I : Imm} : ∀ (ts : List T) (ss : Nat → Option Addr × Nat), (∀ i (h : i < ts.length), RepT I (.agg #[.int .i64 ts[i].head, .slice (ss i).1 ts[i].args.length (ss i).2]) ts[i]) → RowE TermE I (rowsT ts ss) ts
  | [], _, _ => rfl
  | t :: ts, ss, h => ⟨[.int .i64 t.head, .slice (ss 0).1 t.args.length (ss 0).2], _, rfl, ⟨_, _, rfl, h 0 (by simp)⟩, rowsT_rowE ts (fun i => ss (i + 1)) fun i hi => h (i + 1) (by simpa using hi)⟩
theorem RepS.rowE {I : Imm} {v : Value} {ts : List T} (h : RepS I v ts) : ∃ (A : Option Addr) (c : Nat) (xs : List Value), v = .slice A ts.length c ∧ ts.length ≤ c ∧ ts.length ≤ 4398046511104 ∧ Cells I A xs ∧ RowE TermE I xs ts := by
  obtain ⟨ad, c, ss, ts, hc, hb, hat, hr, hsub0⟩ := h
  have hsub : ∀ i (h : i < ts.length), RepT I (.agg #[.int .i64 ts[i].head, .slice (ss i).1 ts[i].args.length (ss i).2]) ts[i] := fun i hi => RepT.mk _ _ (hr i hi) (hsub0 i hi)
  exact ⟨ad, c, rowsT ts ss, rfl, hc, hb, (RowT.of hat hsub).1, rowsT_rowE ts ss hsub⟩
theorem whole_does : ∀ (n : Nat) (t : T), t.size ≤ n → ∀ (I : Imm) (v : Value), RepT I v t →
    Does Try.prog 60 [v] I [] (fun v' I' δ' => RepT I' v' t ∧ δ' = []) := by
  intro n
  induction n with
  | zero => intro t ht; have := t.size_pos; omega
  | succ n ih =>
    intro t ht I v hv
    obtain ⟨h, ts⟩ := t
    obtain ⟨s, t', hr, hs⟩ : ∃ s t', InR h ∧ v = .agg #[.int .i64 h, s] ∧ RepS I s ts := by
      obtain ⟨s, t, hr, hs⟩ := hv; exact ⟨s, zeroT, hr, rfl, hs⟩
    obtain ⟨rfl, hs⟩ := hs
    obtain ⟨ad, c, xs, rfl, hc, hb, hcells, hrow⟩ := hs.rowE
    have hsz : (T.mk h ts).size = 1 + sizeL ts := by simp [T.size]
    refine Does.intro Try.func60 rfl Try.ntmps60 rfl fun w0 => ?_
    refine code_seq ?_
    refine code_region ?_
    refine o_box rfl rfl rfl (fun b1 => ?_)
    refine o_alloc z108 rfl rfl (fun b2 => ?_)
    refine ops_nil ?_
    refine post_next ?_
    refine code_seq ?_
    refine code_region ?_
    first | refine op_v (v_fieldB 1 Try.underlying108 rfl rfl fz93 rfl) rfl ?_ | refine op_v (v_fieldI 1 Try.underlying108 rfl rfl fz93 rfl (by assumption)) rfl ?_ | refine op_v (v_field Try.underlying108 rfl fz93 rfl rfl) rfl ?_
    refine op_v (v_loadA ty93 rfl rfl) rfl ?_
    refine op_call pl64 rfl rfl ((Clone_does _ hcells hrow.length hrow.one1 hb)) Parts.none ?_
    rintro v7 I7 _ hI7 ⟨a7, c7, rfl, rfl⟩
    first | refine op_v (v_fieldB 1 Try.underlying108 rfl rfl fz93 rfl) rfl ?_ | refine op_v (v_fieldI 1 Try.underlying108 rfl rfl fz93 rfl (by assumption)) rfl ?_ | refine op_v (v_field Try.underlying108 rfl fz93 rfl rfl) rfl ?_
    refine o_store ty93 rfl rfl rfl rfl rfl (by repeat (first | exact Swap.here | apply Swap.there)) rfl ?_
    refine ops_nil ?_
    refine post_next ?_
    refine code_seq ?_
    refine code_seq ?_
    refine code_region ?_
    first | refine op_v (v_fieldB 1 Try.underlying108 rfl rfl fz93 rfl) rfl ?_ | refine op_v (v_fieldI 1 Try.underlying108 rfl rfl fz93 rfl (by assumption)) rfl ?_ | refine op_v (v_field Try.underlying108 rfl fz93 rfl rfl) rfl ?_
    refine op_v (v_loadA ty93 rfl rfl) rfl ?_
    refine op_v (v_len Try.underlying93 rfl) rfl ?_
    refine op_v (v_move rfl) rfl ?_
    refine ops_nil ?_
    refine post_next ?_
    refine code_block ?_
    refine code_loop (fun m σ' I' δ' => ∃ (k : Nat) (ys : List Value), m = ts.length - k ∧ k ≤ ts.length ∧ σ' = [(1, .pointer (some ⟨b1, 0, none⟩)), (2, .pointer (some ⟨b2, 0, none⟩)), (10, .slice a7 ts.length c7), (11, .int .i64 ts.length), (12, .int .i64 k)] ∧ I7.le I' ∧ δ' = [.row (.slice a7 ts.length c7) 108 2 ts.length ys, .box b2 108 [.int .i64 0, .slice none 0 0], .box b1 108 [.int .i64 h, .slice a7 ts.length c7]] ∧ RowE TermE I' ys ts) ts.length [(1, .pointer (some ⟨b1, 0, none⟩)), (2, .pointer (some ⟨b2, 0, none⟩)), (10, .slice a7 ts.length c7), (11, .int .i64 ts.length), (12, .int .i64 (0 : Nat))] ⟨0, xs, rfl, Nat.zero_le _, rfl, Imm.le_refl _, rfl, hrow.mono hI7⟩ ⟨rfl, rfl, rfl, rfl, rfl, trivial⟩ ?_
    rintro m _ I0 _ ⟨k, ys, rfl, hk, rfl, hI0, rfl, hys⟩
    refine code_seq ?_
    refine code_region ?_
    first | refine op_v (v_cmptA rfl rfl rfl) rfl ?_ | refine op_v (v_cmpfA rfl rfl rfl) rfl ?_ | refine op_v (v_cmp rfl rfl rfl) rfl ?_
    refine ops_nil ?_
    refine post_next ?_
    refine code_seq ?_
    refine code_cond rfl (fun hc0 => ?_) (fun hc0 => ?_)
    · have hlt : k < ts.length := by simpa using hc0
      obtain ⟨vs, ⟨a, c', rfl, hrk⟩, _, r, hdrop⟩ := hys.at hlt
      have hmem := sizeL_mem ts k hlt
      refine code_skip ?_
      refine post_next ?_
      refine code_seq ?_
      refine code_block ?_
      refine code_seq ?_
      refine code_region ?_
      refine op_v (v_move rfl) rfl ?_
      refine OpsJ.rowSome Has.here (by omega) (fun hA hcr => ?_)
      first | refine op_v (v_indexA Try.underlying93 sz108 rfl rfl) rfl ?_ | refine op_v (v_indexIA Try.underlying93 sz108 rfl rfl) rfl ?_
      refine op_v (v_loadRow (v := .agg #[.int .i64 ts[k].head, .slice a ts[k].args.length c']) ty108 rfl Has.here hA (by rw [hdrop]; rfl)) rfl ?_
      refine o_alloc z108 rfl rfl (fun b4 => ?_)
      refine op_v (v_assign rfl) rfl ?_
      refine o_store ty108 rfl rfl rfl rfl rfl (by repeat (first | exact Swap.here | apply Swap.there)) rfl ?_
      refine ops_nil ?_
      refine post_next ?_
      refine code_draw (.fl 0 (.fl 1 (.fl 2 (.fl 3 (.ef 4 (.fl 5 (.ef 6 .done))))))) (fun _ => [.box b4 108 [.int .i64 ts[k].head, .slice a ts[k].args.length c'], .box b1 108 [.int .i64 h, .slice a7 ts.length c7]]) mixed (by kernel_rfl) (by kernel_rfl) (fun _ => (List.Sublist.cons_cons _ (List.Sublist.cons _ (List.Sublist.cons _ (List.Sublist.cons_cons _ (List.nil_sublist _)))))) ?_
      first | refine e_fl rfl rfl (fun hs_ => PF.mk rfl (v_fieldB 1 Try.underlying108 rfl rfl fz93 rfl) hs_) ?_ | refine e_fl rfl rfl (fun hs_ => PF.mk rfl (v_fieldI 1 Try.underlying108 rfl rfl fz93 rfl (by assumption)) hs_) ?_ | refine e_fl rfl rfl (fun hs_ => PF.mk rfl (v_field Try.underlying108 rfl fz93 rfl rfl) hs_) ?_
      refine e_fl rfl rfl (fun hs_ => PF.mk rfl (v_loadA ty93 rfl rfl) hs_) ?_
      refine e_fl rfl rfl (fun hs_ => PF.mk rfl (v_move rfl) hs_) ?_
      refine e_fl rfl rfl (fun hs_ => PF.mk rfl (v_loadA ty108 rfl rfl) hs_) ?_
      refine e_eff rfl (by intro cs b hc; cases hc) (by intro c hc; cases hc) ?_
      refine op_call pl60 rfl rfl ((ih ts[k] (by omega) _ _ hrk)) Parts.none ?_
      rintro v21 I21 _ hI21 ⟨hr21, rfl⟩
      obtain ⟨a21, c21, rfl, _⟩ := hr21.shape
      obtain ⟨vs1, ⟨_, _, rfl, _⟩, _, hst1⟩ := (hys.mono hI21).store (b := ts[k]) hlt
      obtain ⟨ys1, hst, hrow1⟩ := hst1 0 [.int .i64 ts[k].head, .slice a21 ts[k].args.length c21] _ rfl ⟨a21, c21, rfl, hr21⟩
      rw [List.set_getElem_self] at hrow1
      refine ops_nil ?_
      refine e_next rfl side_allA ?_
      first | refine e_fl rfl rfl (fun hs_ => PF.mk rfl (v_indexA Try.underlying93 sz108 rfl rfl) hs_) ?_ | refine e_fl rfl rfl (fun hs_ => PF.mk rfl (v_indexIA Try.underlying93 sz108 rfl rfl) hs_) ?_
      refine e_eff rfl (by intro cs b hc; cases hc) (by intro c hc; cases hc) ?_
      refine o_storeRow (xs' := ys1) ty108 rfl rfl hA rfl rfl rfl (by simp [cellsL]) (Swap.there Swap.here) hst ?_
      refine ops_nil ?_
      refine e_next_ (side_nil (by kernel_rfl)) ?_
      refine e_done ?_
      refine post_out ?_
      refine post_next ?_
      refine code_region ?_
      first | refine op_v (v_addb rfl rfl rfl (by omega)) rfl ?_ | refine op_v (v_add rfl rfl) rfl ?_
      refine op_v (v_move rfl) rfl ?_
      refine ops_nil ?_
      refine PostJ.view (View.drop Del.here) ?_
      refine post_again (ts.length - (k + 1)) [(1, .pointer (some ⟨b1, 0, none⟩)), (2, .pointer (some ⟨b2, 0, none⟩)), (10, .slice a7 ts.length c7), (11, .int .i64 ts.length), (12, .int .i64 (k + 1 : Nat))] (by omega) ⟨k + 1, ys1, rfl, hlt, rfl, Imm.leA, rfl, hrow1⟩ ⟨rfl, rfl, rfl, rfl, rfl, trivial⟩
    · have hge : k = ts.length := by simp at hc0; omega
      refine code_exit ?_
      refine post_exit_then ?_
      refine post_exit_then ?_
      refine post_exit ?_
      refine post_next ?_
      refine code_seq ?_
      refine code_region ?_
      refine OpsJ.freezeRow Del.here ?_
      rintro I24 a24 c24 hI24 hq hc24 hl24 hcells24
      cases hq
      refine op_v (v_loadA ty108 rfl rfl) rfl ?_
      refine o_store ty108 rfl rfl rfl rfl rfl (by repeat (first | exact Swap.here | apply Swap.there)) rfl ?_
      refine ops_nil ?_
      refine post_next ?_
      refine code_ret ?_
      refine post_ret (rs := [.cell 2 108]) rfl (List.Perm.refl _) (.cons (.cell rfl ty108 (by repeat (first | exact Has.here | apply Has.there)) rfl) .nil) (List.nil_sublist _) ?_
      exact ⟨RepT.mk _ (.mk h ts) hr ((hys.mono hI24).repS hcells24 hc24 hb), rfl⟩
theorem lit_setL {I : Imm} {xs : List Value} {c : List Li} {k : Nat} {a : Option Addr} {n : Nat} (h : RowE LitE I xs c) (hk : k < c.length) (ht : RepT I (.agg #[.int .i64 c[k].l.head, .slice a c[k].l.args.length n]) c[k].l) :
    ∃ ys, Lg.stL xs (k * 5 + 1) [.int .i64 c[k].l.head, .slice a c[k].l.args.length n] = some ys ∧ RowE LitE I ys c := by
  obtain ⟨vs, ⟨la, lc, ra, rc, rfl, h1, h2⟩, _, hst⟩ := h.store (b := c[k]) hk
  obtain ⟨ys, hs, hr⟩ := hst 1 [.int .i64 c[k].l.head, .slice a c[k].l.args.length n] _ rfl ⟨a, n, ra, rc, rfl, ht, h2⟩
  rw [List.set_getElem_self] at hr
  exact ⟨ys, hs, hr⟩
theorem lit_setR {I : Imm} {xs : List Value} {c : List Li} {k : Nat} {a : Option Addr} {n : Nat} (h : RowE LitE I xs c) (hk : k < c.length) (ht : RepT I (.agg #[.int .i64 c[k].r.head, .slice a c[k].r.args.length n]) c[k].r) :
    ∃ ys, Lg.stL xs (k * 5 + 3) [.int .i64 c[k].r.head, .slice a c[k].r.args.length n] = some ys ∧ RowE LitE I ys c := by
  obtain ⟨vs, ⟨la, lc, ra, rc, rfl, h1, h2⟩, _, hst⟩ := h.store (b := c[k]) hk
  obtain ⟨ys, hs, hr⟩ := hst 3 [.int .i64 c[k].r.head, .slice a c[k].r.args.length n] _ rfl ⟨la, lc, a, n, rfl, h1, ht⟩
  rw [List.set_getElem_self] at hr
  exact ⟨ys, hs, hr⟩
theorem own_does {I : Imm} {v : Value} {c : List Li} (hv : RepC I v c) :
    Does Try.prog 43 [v] I [] (fun v' I' δ' => RepC I' v' c ∧ δ' = []) := by
  have hsm := hv.small
  refine Does.intro Try.func43 rfl Try.ntmps43 rfl fun w0 => ?_
  refine code_seq ?_
  refine code_region ?_
  refine op_v (v_assign rfl) rfl ?_
  refine ops_nil ?_
  refine post_next ?_
  refine code_seq ?_
  refine code_region ?_
  refine op_v (v_move rfl) rfl ?_
  refine op_call pl59 rfl rfl ((CloneC_does hv)) Parts.none ?_
  rintro v7 I7 _ hI7 ⟨a7, c7, xs, rfl, hrow, rfl⟩
  refine op_v (v_assign rfl) rfl ?_
  refine ops_nil ?_
  refine post_next ?_
  refine code_seq ?_
  refine code_seq ?_
  refine code_region ?_
  refine op_v (v_move rfl) rfl ?_
  refine op_v (v_len Try.underlying27 rfl) rfl ?_
  refine op_v (v_move rfl) rfl ?_
  refine ops_nil ?_
  refine post_next ?_
  refine code_block ?_
  refine code_loop (fun m σ' I' δ' => ∃ (k : Nat) (ys : List Value), m = c.length - k ∧ k ≤ c.length ∧ σ' = [(3, .slice a7 c.length c7), (8, .slice a7 c.length c7), (9, .int .i64 c.length), (10, .int .i64 k)] ∧ I7.le I' ∧ δ' = [.row (.slice a7 c.length c7) 110 5 c.length ys] ∧ RowE LitE I' ys c) c.length [(3, .slice a7 c.length c7), (8, .slice a7 c.length c7), (9, .int .i64 c.length), (10, .int .i64 (0 : Nat))] ⟨0, xs, rfl, Nat.zero_le _, rfl, Imm.le_refl _, rfl, hrow⟩ ⟨rfl, rfl, rfl, rfl, trivial⟩ ?_
  rintro m _ I0 _ ⟨k, ys, rfl, hk, rfl, hI0, rfl, hys⟩
  refine code_seq ?_
  refine code_region ?_
  first | refine op_v (v_cmptA rfl rfl rfl) rfl ?_ | refine op_v (v_cmpfA rfl rfl rfl) rfl ?_ | refine op_v (v_cmp rfl rfl rfl) rfl ?_
  refine ops_nil ?_
  refine post_next ?_
  refine code_seq ?_
  refine code_cond rfl (fun hc0 => ?_) (fun hc0 => ?_)
  · have hlt : k < c.length := by simpa using hc0
    obtain ⟨vs, ⟨la, lc, ra, rc, rfl, hkl, hkr⟩, _, r, hdrop⟩ := hys.at hlt
    refine code_skip ?_
    refine post_next ?_
    refine code_seq ?_
    refine code_block ?_
    refine code_seq ?_
    refine code_region ?_
    refine op_v (v_move rfl) rfl ?_
    refine OpsJ.rowSome Has.here (by omega) (fun hA hcr => ?_)
    first | refine op_v (v_indexA Try.underlying27 sz110 rfl rfl) rfl ?_ | refine op_v (v_indexIA Try.underlying27 sz110 rfl rfl) rfl ?_
    refine op_v (v_loadRow (v := .agg #[.bool c[k].neg, .int .i64 c[k].l.head, .slice la c[k].l.args.length lc, .int .i64 c[k].r.head, .slice ra c[k].r.args.length rc]) ty110 rfl Has.here hA (by rw [hdrop]; rfl)) rfl ?_
    refine o_alloc z110 rfl rfl (fun b5 => ?_)
    refine op_v (v_assign rfl) rfl ?_
    refine o_store ty110 rfl rfl rfl rfl rfl (by repeat (first | exact Swap.here | apply Swap.there)) rfl ?_
    refine ops_nil ?_
    refine post_next ?_
    refine code_draw (.fl 0 (.fl 1 (.fl 2 (.fl 3 (.fl 4 (.fl 5 (.fl 7 (.fl 8 (.ef 6 (.ef 9 (.fl 10 (.fl 11 (.ef 12 (.fl 13 (.fl 14 (.ef 15 .done)))))))))))))))) (fun _ => [.box b5 110 [.bool c[k].neg, .int .i64 c[k].l.head, .slice la c[k].l.args.length lc, .int .i64 c[k].r.head, .slice ra c[k].r.args.length rc]]) mixed (by kernel_rfl) (by kernel_rfl) (fun _ => (List.Sublist.cons_cons _ (List.nil_sublist _))) ?_
    refine e_fl rfl rfl (fun hs_ => PF.mk rfl (v_move rfl) hs_) ?_
    refine e_fl rfl rfl (fun hs_ => PF.mk rfl (v_move rfl) hs_) ?_
    refine e_fl rfl rfl (fun hs_ => PF.mk rfl (v_move rfl) hs_) ?_
    refine e_fl rfl rfl (fun hs_ => PF.mk rfl (v_move rfl) hs_) ?_
    first | refine e_fl rfl rfl (fun hs_ => PF.mk rfl (v_fieldB 1 Try.underlying110 rfl rfl fz108 rfl) hs_) ?_ | refine e_fl rfl rfl (fun hs_ => PF.mk rfl (v_fieldI 1 Try.underlying110 rfl rfl fz108 rfl (by assumption)) hs_) ?_ | refine e_fl rfl rfl (fun hs_ => PF.mk rfl (v_field Try.underlying110 rfl fz108 rfl rfl) hs_) ?_
    refine e_fl rfl rfl (fun hs_ => PF.mk rfl (v_loadA ty108 rfl rfl) hs_) ?_
    first | refine e_fl rfl rfl (fun hs_ => PF.mk rfl (v_fieldB 3 Try.underlying110 rfl rfl fz108 rfl) hs_) ?_ | refine e_fl rfl rfl (fun hs_ => PF.mk rfl (v_fieldI 3 Try.underlying110 rfl rfl fz108 rfl (by assumption)) hs_) ?_ | refine e_fl rfl rfl (fun hs_ => PF.mk rfl (v_field Try.underlying110 rfl fz108 rfl rfl) hs_) ?_
    refine e_fl rfl rfl (fun hs_ => PF.mk rfl (v_loadA ty108 rfl rfl) hs_) ?_
    refine e_eff rfl (by intro cs b hc; cases hc) (by intro c hc; cases hc) ?_
    refine op_call pl60 rfl rfl ((whole_does _ _ (Nat.le_refl _) _ _ hkl)) Parts.none ?_
    rintro v21 I21 _ hI21 ⟨hr21, rfl⟩
    obtain ⟨a21, c21, rfl, _⟩ := hr21.shape
    refine ops_nil ?_
    refine e_next rfl side_allA ?_
    refine e_eff rfl (by intro cs b hc; cases hc) (by intro c hc; cases hc) ?_
    refine op_call pl60 rfl rfl ((whole_does _ _ (Nat.le_refl _) _ _ (hkr.mono hI21))) Parts.none ?_
    rintro v24 I24 _ hI24 ⟨hr24, rfl⟩
    obtain ⟨a24, c24, rfl, _⟩ := hr24.shape
    obtain ⟨ys1, hst1, hys1⟩ := lit_setL (hys.mono Imm.leA) hlt (hr21.mono hI24)
    obtain ⟨ys2, hst2, hys2⟩ := lit_setR hys1 hlt hr24
    refine ops_nil ?_
    refine e_next rfl side_allA ?_
    first | refine e_fl rfl rfl (fun hs_ => PF.mk rfl (v_indexA Try.underlying27 sz110 rfl rfl) hs_) ?_ | refine e_fl rfl rfl (fun hs_ => PF.mk rfl (v_indexIA Try.underlying27 sz110 rfl rfl) hs_) ?_
    first | refine e_fl rfl rfl (fun hs_ => PF.mk rfl (v_fieldB 1 Try.underlying110 rfl rfl fz108 rfl) hs_) ?_ | refine e_fl rfl rfl (fun hs_ => PF.mk rfl (v_fieldI 1 Try.underlying110 rfl rfl fz108 rfl (by assumption)) hs_) ?_ | refine e_fl rfl rfl (fun hs_ => PF.mk rfl (v_field Try.underlying110 rfl fz108 rfl rfl) hs_) ?_
    refine e_eff rfl (by intro cs b hc; cases hc) (by intro c hc; cases hc) ?_
    refine o_storeRow (xs' := ys1) ty108 rfl rfl hA rfl rfl rfl (by simp [cellsL]) (Swap.there Swap.here) hst1 ?_
    refine ops_nil ?_
    refine e_next_ side_allA ?_
    first | refine e_fl rfl rfl (fun hs_ => PF.mk rfl (v_indexA Try.underlying27 sz110 rfl rfl) hs_) ?_ | refine e_fl rfl rfl (fun hs_ => PF.mk rfl (v_indexIA Try.underlying27 sz110 rfl rfl) hs_) ?_
    first | refine e_fl rfl rfl (fun hs_ => PF.mk rfl (v_fieldB 3 Try.underlying110 rfl rfl fz108 rfl) hs_) ?_ | refine e_fl rfl rfl (fun hs_ => PF.mk rfl (v_fieldI 3 Try.underlying110 rfl rfl fz108 rfl (by assumption)) hs_) ?_ | refine e_fl rfl rfl (fun hs_ => PF.mk rfl (v_field Try.underlying110 rfl fz108 rfl rfl) hs_) ?_
    refine e_eff rfl (by intro cs b hc; cases hc) (by intro c hc; cases hc) ?_
    refine o_storeRow (xs' := ys2) ty108 rfl rfl hA rfl rfl rfl (by simp [cellsL]) (Swap.there Swap.here) hst2 ?_
    refine ops_nil ?_
    refine e_next_ side_allA ?_
    refine e_done ?_
    refine post_out ?_
    refine post_next ?_
    refine code_region ?_
    first | refine op_v (v_addb rfl rfl rfl (by omega)) rfl ?_ | refine op_v (v_add rfl rfl) rfl ?_
    refine op_v (v_move rfl) rfl ?_
    refine ops_nil ?_
    refine PostJ.view (View.drop Del.here) ?_
    refine post_again (c.length - (k + 1)) [(3, .slice a7 c.length c7), (8, .slice a7 c.length c7), (9, .int .i64 c.length), (10, .int .i64 (k + 1 : Nat))] (by omega) ⟨k + 1, ys2, rfl, hlt, rfl, Imm.leA, rfl, hys2⟩ ⟨rfl, rfl, rfl, rfl, trivial⟩
  · have hge : k = c.length := by simp at hc0; omega
    refine code_exit ?_
    refine post_exit_then ?_
    refine post_exit_then ?_
    refine post_exit ?_
    refine post_next ?_
    refine code_seq ?_
    refine code_region ?_
    refine OpsJ.freezeRow Del.here ?_
    rintro I30 a30 c30 hI30 hq hc30 hl30 hcells30
    cases hq
    refine op_v (v_move rfl) rfl ?_
    refine op_v (v_assign rfl) rfl ?_
    refine ops_nil ?_
    refine post_next ?_
    refine code_ret ?_
    refine post_ret (rs := [.tmp 2]) rfl (List.Perm.refl _) (.cons (.tmp rfl) .nil) (List.nil_sublist _) ?_
    exact ⟨⟨_, _, ys, rfl, hc30, hsm, hcells30, hys.mono hI30⟩, rfl⟩
theorem IdxI_does {I : Imm} {v fv : Value} {xs : List Int} {δf : List Ent} {p : Int → Bool} (hv : RInts I v xs) (hf : ∀ J x, I.le J → FDoes Try.prog fv [.int .i64 x] J δf (fun v _ δ' => v = .bool (p x) ∧ δ' = δf)) :
    Does Try.prog 58 [v, fv] I δf (fun v _ δ' => (∃ n : Int, v = .int .i64 n ∧ (0 ≤ n ↔ xs.any p = true)) ∧ δ' = δf) := by
  obtain ⟨ad, c, xs, hc, hb, hat, hr⟩ := hv
  refine Does.intro Try.func58 rfl Try.ntmps58 rfl fun w0 => ?_
  refine code_seq ?_
  refine code_region ?_
  refine op_v (v_assign rfl) rfl ?_
  refine ops_nil ?_
  refine post_next ?_
  refine code_seq ?_
  refine code_seq ?_
  refine code_region ?_
  refine op_v (v_move rfl) rfl ?_
  refine op_v (v_len Try.underlying28 rfl) rfl ?_
  refine op_v (v_move rfl) rfl ?_
  refine ops_nil ?_
  refine post_next ?_
  refine code_block ?_
  refine code_loop (fun m σ' I' δ' => ∃ k : Nat, m = xs.length - k ∧ k ≤ xs.length ∧ σ' = [(0, .slice ad xs.length c), (1, fv), (7, .int .i64 xs.length), (8, .int .i64 k)] ∧ I.le I' ∧ δ' = δf ∧ (xs.take k).any p = false) xs.length [(0, .slice ad xs.length c), (1, fv), (7, .int .i64 xs.length), (8, .int .i64 (0 : Nat))] ⟨0, rfl, Nat.zero_le _, rfl, Imm.le_refl _, rfl, rfl⟩ ⟨rfl, rfl, rfl, rfl, trivial⟩ ?_
  rintro m _ I0 _ ⟨k, rfl, hk, rfl, hI0, rfl, hp⟩
  refine code_seq ?_
  refine code_region ?_
  first | refine op_v (v_cmptA rfl rfl rfl) rfl ?_ | refine op_v (v_cmpfA rfl rfl rfl) rfl ?_ | refine op_v (v_cmp rfl rfl rfl) rfl ?_
  refine ops_nil ?_
  refine post_next ?_
  refine code_seq ?_
  refine code_cond rfl (fun hc0 => ?_) (fun hc0 => ?_)
  · have hlt : k < xs.length := by simpa using hc0
    have hs1 := ints_some hat k hlt
    refine code_skip ?_
    refine post_next ?_
    refine code_seq ?_
    refine code_block ?_
    refine code_seq ?_
    refine code_region ?_
    refine op_v (v_move rfl) rfl ?_
    refine op_v (v_assign rfl) rfl ?_
    refine ops_nil ?_
    refine post_next ?_
    refine code_seq ?_
    refine code_region ?_
    refine op_v (v_move rfl) rfl ?_
    refine op_v (v_move rfl) rfl ?_
    refine op_v (v_move rfl) rfl ?_
    first | refine op_v (v_indexA Try.underlying28 sz3 rfl rfl) rfl ?_ | refine op_v (v_indexIA Try.underlying28 sz3 rfl rfl) rfl ?_
    first | refine op_v (v_loadI0 ty3 ((ints_at hat k hlt).mono hI0) rfl rfl rfl) rfl ?_ | refine op_v (v_loadI ty3 ((ints_at hat k hlt).mono hI0) rfl rfl rfl) rfl ?_
    refine op_fcall rfl rfl rfl ((hf _ xs[k] hI0)) Parts.all ?_
    rintro v16 I16 _ hI16 ⟨rfl, rfl⟩
    rw [List.append_nil]
    refine ops_nil ?_
    refine post_next ?_
    refine code_cond rfl (fun hc1 => ?_) (fun hc1 => ?_)
    · refine code_seq ?_
      refine code_region ?_
      refine op_v (v_move rfl) rfl ?_
      refine op_v (v_assign rfl) rfl ?_
      refine ops_nil ?_
      refine post_next ?_
      refine code_ret ?_
      refine post_ret_block ?_
      refine post_ret_then ?_
      refine post_ret_then ?_
      refine post_ret_block ?_
      refine post_ret_then ?_
      refine post_ret (rs := [.tmp 4]) rfl (List.Perm.refl _) (.cons (.tmp rfl) .nil) (List.Sublist.refl _) ?_
      exact ⟨⟨k, rfl, ⟨fun _ => List.any_eq_true.2 ⟨xs[k], List.getElem_mem hlt, hc1⟩, fun _ => by omega⟩⟩, rfl⟩
    · refine code_skip ?_
      refine post_out ?_
      refine post_next ?_
      refine code_region ?_
      first | refine op_v (v_addb rfl rfl rfl (by omega)) rfl ?_ | refine op_v (v_add rfl rfl) rfl ?_
      refine op_v (v_move rfl) rfl ?_
      refine ops_nil ?_
      refine post_again (xs.length - (k + 1)) [(0, .slice ad xs.length c), (1, fv), (7, .int .i64 xs.length), (8, .int .i64 (k + 1 : Nat))] (by omega) ⟨k + 1, rfl, hlt, rfl, Imm.le_trans hI0 hI16, rfl, by rw [List.take_succ_eq_append_getElem hlt, List.any_append, hp]; simp [hc1]⟩ ⟨rfl, rfl, rfl, rfl, trivial⟩
  · have hge : k = xs.length := by simp at hc0; omega
    subst hge
    rw [List.take_length] at hp
    refine code_exit ?_
    refine post_exit_then ?_
    refine post_exit_then ?_
    refine post_exit ?_
    refine post_next ?_
    refine code_seq ?_
    refine code_region ?_
    refine op_v (v_assign rfl) rfl ?_
    refine ops_nil ?_
    refine post_next ?_
    refine code_ret ?_
    refine post_ret (rs := [.tmp 4]) rfl (List.Perm.refl _) (.cons (.tmp rfl) .nil) (List.Sublist.refl _) ?_
    exact ⟨⟨-1, rfl, ⟨fun h => by omega, fun h => by rw [hp] at h; cases h⟩⟩, rfl⟩
theorem ContFI_does {I : Imm} {v fv : Value} {xs : List Int} {δf : List Ent} {p : Int → Bool} (hv : RInts I v xs) (hf : ∀ J x, I.le J → FDoes Try.prog fv [.int .i64 x] J δf (fun v _ δ' => v = .bool (p x) ∧ δ' = δf)) :
    Does Try.prog 40 [v, fv] I δf (fun v _ δ' => v = .bool (xs.any p) ∧ δ' = δf) := by
  refine Does.intro Try.func40 rfl Try.ntmps40 rfl fun w0 => ?_
  refine code_seq ?_
  refine code_region ?_
  refine op_v (v_assign rfl) rfl ?_
  refine ops_nil ?_
  refine post_next ?_
  refine code_seq ?_
  refine code_region ?_
  refine op_v (v_move rfl) rfl ?_
  refine op_v (v_move rfl) rfl ?_
  refine op_call pl58 rfl rfl ((IdxI_does hv hf)) Parts.all ?_
  rintro v7 I7 _ hI7 ⟨⟨n, rfl, hn⟩, rfl⟩
  rw [List.append_nil]
  refine op_v (v_cmp (z := xs.any p) rfl rfl (by cases h : xs.any p <;> simp [cmpI] <;> (rw [h] at hn; simp at hn; omega))) rfl ?_
  refine op_v (v_assign rfl) rfl ?_
  refine ops_nil ?_
  refine post_next ?_
  refine code_ret ?_
  refine post_ret (rs := [.tmp 4]) rfl (List.Perm.refl _) (.cons (.tmp rfl) .nil) (List.Sublist.refl _) ?_
  exact ⟨rfl, rfl⟩
end Go.Proofs.Ythbcdffldcdfoaa
/- Heaps of items: plain facts. No condition. -/
set_option linter.unusedVariables false
set_option linter.unusedSimpArgs false
set_option linter.unnecessarySimpa false
namespace Go.Proofs.Ythbcdffldcdfoaa
open Go Lg

abbrev It := Int × Int
abbrev itC (x : It) : List Value := [.int .i64 x.1, .int .i64 x.2]
def itL (xs : List It) : List Value := xs.flatMap itC
theorem itL_len (xs : List It) : (itL xs).length = xs.length * 2 := by
  induction xs with
  | nil => rfl
  | cons x r ih => simp only [itL, List.flatMap_cons, List.length_append, List.length_cons, List.length_nil] at ih ⊢; omega
theorem itL_snoc (xs : List It) (x : It) : itL (xs ++ [x]) = itL xs ++ itC x := by simp [itL]
theorem itL_at : ∀ (xs : List It) (i : Nat) (h : i < xs.length), (itL xs)[i * 2]? = some (.int .i64 xs[i].1) ∧ (itL xs)[i * 2 + 1]? = some (.int .i64 xs[i].2)
  | x :: r, 0, _ => ⟨rfl, rfl⟩
  | x :: r, i + 1, h => by
    have ih := itL_at r i (by simpa using h)
    have e1 : (itL (x :: r))[(i + 1) * 2]? = (itL r)[i * 2]? := by rw [show (i + 1) * 2 = i * 2 + 1 + 1 by omega]; rfl
    have e2 : (itL (x :: r))[(i + 1) * 2 + 1]? = (itL r)[i * 2 + 1]? := by rw [show (i + 1) * 2 + 1 = i * 2 + 1 + 1 + 1 by omega]; rfl
    rw [e1, e2]; exact ih
theorem itL_set : ∀ (xs : List It) (i : Nat) (y : It), i < xs.length → itL (xs.set i y) = ((itL xs).set (i * 2) (.int .i64 y.1)).set (i * 2 + 1) (.int .i64 y.2)
  | x :: r, 0, y, _ => rfl
  | x :: r, i + 1, y, h => by
    have ih := itL_set r i y (by simpa using h)
    rw [List.set_cons_succ, show (i + 1) * 2 = i * 2 + 1 + 1 by omega]
    show itC x ++ itL (r.set i y) = ((itC x ++ itL r).set (i * 2 + 1 + 1) _).set (i * 2 + 1 + 1 + 1) _
    rw [ih]; rfl
theorem itL_drop (xs : List It) (i : Nat) (h : i < xs.length) : (itL xs).drop (i * 2) = .int .i64 xs[i].1 :: .int .i64 xs[i].2 :: (itL xs).drop (i * 2 + 2) := by
  obtain ⟨h1, h2⟩ := itL_at xs i h
  obtain ⟨a1, b1⟩ := List.getElem?_eq_some_iff.1 h1
  obtain ⟨a2, b2⟩ := List.getElem?_eq_some_iff.1 h2
  rw [List.drop_eq_getElem_cons a1, b1, List.drop_eq_getElem_cons a2, b2]
theorem itL_take (xs : List It) (n : Nat) : itL (xs.take n) = (itL xs).take (n * 2) := by
  induction xs generalizing n with
  | nil => simp [itL]
  | cons x r ih =>
    cases n with
    | zero => simp [itL]
    | succ n => rw [List.take_succ_cons, show (n + 1) * 2 = n * 2 + 1 + 1 by omega]; show itC x ++ itL (r.take n) = _; rw [ih]; rfl
def leI (a b : It) : Prop := a.1 < b.1 ∨ (a.1 = b.1 ∧ a.2 ≤ b.2)
def ltB (a b : It) : Bool := decide (a.1 < b.1) || (decide (a.1 = b.1) && decide (a.2 < b.2))
theorem ltB_iff {a b : It} : ltB a b = true ↔ a.1 < b.1 ∨ (a.1 = b.1 ∧ a.2 < b.2) := by simp [ltB]
theorem leI_of {a b : It} (h : ltB a b = false) : leI b a := by
  have : ¬ (a.1 < b.1 ∨ (a.1 = b.1 ∧ a.2 < b.2)) := fun q => by rw [ltB_iff.2 q] at h; cases h
  unfold leI; omega
theorem leI_lt {a b : It} (h : ltB a b = true) : leI a b := by have := ltB_iff.1 h; unfold leI; omega
theorem leI_trans {a b c : It} (h : leI a b) (k : leI b c) : leI a c := by unfold leI at *; omega
theorem leI_refl (a : It) : leI a a := by unfold leI; omega
theorem leI_antisymm {a b : It} (h : leI a b) (k : leI b a) : a = b := by
  unfold leI at *; ext <;> omega
def gt (xs : List It) (j : Nat) : It := xs.getD j (0, 0)
theorem gt_at {xs : List It} {j : Nat} (h : j < xs.length) : gt xs j = xs[j] := by simp [gt, List.getD_eq_getElem?_getD, List.getElem?_eq_getElem h]
def swapL (xs : List It) (i k : Nat) : List It := (xs.set i (gt xs k)).set k (gt xs i)
theorem swapL_len (xs : List It) (i k : Nat) : (swapL xs i k).length = xs.length := by simp [swapL]
theorem gt_set {xs : List It} {i : Nat} (h : i < xs.length) (y : It) (j : Nat) : gt (xs.set i y) j = if i = j then y else gt xs j := by
  unfold gt
  rw [List.getD_eq_getElem?_getD, List.getD_eq_getElem?_getD, List.getElem?_set]
  by_cases e : i = j
  · subst e; simp [h]
  · simp [e]
theorem gt_swap {xs : List It} {i k : Nat} (hi : i < xs.length) (hk : k < xs.length) (j : Nat) : gt (swapL xs i k) j = if k = j then gt xs i else if i = j then gt xs k else gt xs j := by
  unfold swapL
  rw [gt_set (by simpa using hk), gt_set hi]
theorem swapL_perm {xs : List It} {i k : Nat} (hi : i < xs.length) (hk : k < xs.length) : (swapL xs i k).Perm xs := by
  rw [List.perm_iff_count]
  intro z
  unfold swapL
  rw [List.count_set (by simpa using hk), List.count_set hi]
  have e1 : (xs.set i (gt xs k))[k]'(by simpa using hk) = gt xs k := by
    have h1 := gt_at (xs := xs.set i (gt xs k)) (j := k) (by simpa using hk)
    rw [← h1, gt_set hi]; split
    · rfl
    · rfl
  rw [e1, ← gt_at hi]
  have c1 : (gt xs i == z) = true → 0 < xs.count z := fun h => by
    have : gt xs i = z := by simpa using h
    rw [← this, gt_at hi]; exact List.count_pos_iff.2 (List.getElem_mem hi)
  cases h1 : (gt xs i == z) <;> cases h2 : (gt xs k == z) <;> simp <;> (try (have := c1 h1; omega))
def IsHeap (xs : List It) : Prop := ∀ j, 0 < j → j < xs.length → leI (gt xs ((j - 1) / 2)) (gt xs j)
/-- only what stands below one place may be less -/
def DownInv (xs : List It) (i : Nat) : Prop := (∀ j, 0 < j → j < xs.length → (j - 1) / 2 ≠ i → leI (gt xs ((j - 1) / 2)) (gt xs j)) ∧ ∀ j, 0 < j → j < xs.length → (j - 1) / 2 = i → 0 < i → leI (gt xs ((i - 1) / 2)) (gt xs j)
/-- one place may be wrong, and, if it is the first one, what stands below it -/
def UpInv (xs : List It) (i i0 : Nat) : Prop := (∀ j, 0 < j → j < xs.length → j ≠ i → ((j - 1) / 2 ≠ i ∨ i ≠ i0) → leI (gt xs ((j - 1) / 2)) (gt xs j)) ∧ ∀ j, 0 < j → j < xs.length → (j - 1) / 2 = i → 0 < i → leI (gt xs ((i - 1) / 2)) (gt xs j)
theorem IsHeap.down {xs : List It} (h : IsHeap xs) (i : Nat) : DownInv xs i :=
  ⟨fun j h0 h1 _ => h j h0 h1, fun j h0 h1 h2 h3 => leI_trans (h i h3 (by omega)) (h2 ▸ h j h0 h1)⟩
theorem up_end {xs : List It} {i i0 : Nat} (h : UpInv xs i i0) (he : i = 0 ∨ leI (gt xs ((i - 1) / 2)) (gt xs i)) : DownInv xs i0 := by
  by_cases e : i = i0
  · subst e
    refine ⟨fun j h0 h1 h2 => ?_, h.2⟩
    by_cases hj : j = i
    · subst hj
      rcases he with he | he
      · omega
      · exact he
    · exact h.1 j h0 h1 hj (.inl h2)
  · have hh : IsHeap xs := fun j h0 h1 => by
      by_cases hj : j = i
      · subst hj
        rcases he with he | he
        · omega
        · exact he
      · exact h.1 j h0 h1 hj (.inr e)
    exact hh.down i0
theorem up_step {xs : List It} {i i0 : Nat} (h : UpInv xs i i0) (hi : 0 < i) (hl : i < xs.length) (hle : i ≤ i0) (hlt : leI (gt xs i) (gt xs ((i - 1) / 2))) : UpInv (swapL xs i ((i - 1) / 2)) ((i - 1) / 2) i0 := by
  obtain ⟨p, hp⟩ : ∃ p, p = (i - 1) / 2 := ⟨_, rfl⟩
  rw [← hp] at hlt ⊢
  have hpi : p < i := by omega
  have hpl : p < xs.length := by omega
  have G := gt_swap hl hpl
  have gi : gt (swapL xs i p) i = gt xs p := by rw [G, if_neg (by omega), if_pos rfl]
  have gp : gt (swapL xs i p) p = gt xs i := by rw [G, if_pos rfl]
  have go : ∀ j, j ≠ i → j ≠ p → gt (swapL xs i p) j = gt xs j := fun j a b => by rw [G, if_neg (fun e => b e.symm), if_neg (fun e => a e.symm)]
  constructor
  · intro j h0 h1 hj _
    rw [swapL_len] at h1
    by_cases ji : j = i
    · subst ji; rw [gi, ← hp, gp]; exact hlt
    · rw [go j ji hj]
      by_cases q1 : (j - 1) / 2 = i
      · rw [q1, gi, hp]; exact h.2 j h0 h1 q1 hi
      · by_cases q2 : (j - 1) / 2 = p
        · rw [q2, gp]; exact leI_trans hlt (q2 ▸ h.1 j h0 h1 ji (.inl q1))
        · rw [go _ q1 q2]; exact h.1 j h0 h1 ji (.inl q1)
  · intro j h0 h1 hj hp0
    rw [swapL_len] at h1
    have e1 : (p - 1) / 2 ≠ i := by omega
    have e2 : (p - 1) / 2 ≠ p := by omega
    rw [go _ e1 e2]
    have hpp : leI (gt xs ((p - 1) / 2)) (gt xs p) := h.1 p hp0 hpl (by omega) (.inl (by omega))
    by_cases ji : j = i
    · subst ji; rw [gi]; exact hpp
    · have jp : j ≠ p := by omega
      rw [go j ji jp]
      exact leI_trans hpp (hj ▸ h.1 j h0 h1 ji (.inl (by omega)))
theorem down_end {xs : List It} {i : Nat} (h : DownInv xs i) (he : ∀ j, 0 < j → j < xs.length → (j - 1) / 2 = i → leI (gt xs i) (gt xs j)) : IsHeap xs := fun j h0 h1 => by
  by_cases q : (j - 1) / 2 = i
  · rw [q]; exact he j h0 h1 q
  · exact h.1 j h0 h1 q
theorem down_step {xs : List It} {i c : Nat} (h : DownInv xs i) (hc : (c - 1) / 2 = i) (hc0 : 0 < c) (hcl : c < xs.length) (hlt : leI (gt xs c) (gt xs i)) (hmin : ∀ j, 0 < j → j < xs.length → (j - 1) / 2 = i → leI (gt xs c) (gt xs j)) : DownInv (swapL xs i c) c := by
  have hil : i < xs.length := by omega
  have hic : i < c := by omega
  have G := gt_swap hil hcl
  have gi : gt (swapL xs i c) i = gt xs c := by rw [G, if_neg (by omega), if_pos rfl]
  have gc : gt (swapL xs i c) c = gt xs i := by rw [G, if_pos rfl]
  have go : ∀ j, j ≠ i → j ≠ c → gt (swapL xs i c) j = gt xs j := fun j a b => by rw [G, if_neg (fun e => b e.symm), if_neg (fun e => a e.symm)]
  constructor
  · intro j h0 h1 hj
    rw [swapL_len] at h1
    by_cases jc : j = c
    · subst jc; rw [gc, hc, gi]; exact hlt
    · by_cases ji : j = i
      · subst ji
        have e1 : (j - 1) / 2 ≠ j := by omega
        rw [gi, go _ e1 hj]
        exact h.2 c hc0 hcl hc (by omega)
      · rw [go j ji jc]
        by_cases q1 : (j - 1) / 2 = i
        · rw [q1, gi]; exact hmin j h0 h1 q1
        · rw [go _ q1 hj]; exact h.1 j h0 h1 q1
  · intro j h0 h1 hj _
    rw [swapL_len] at h1
    have ji : j ≠ i := by omega
    have jc : j ≠ c := by omega
    rw [hc, gi, go j ji jc]
    exact hj ▸ h.1 j h0 h1 (by omega)
theorem heap_min {xs : List It} (h : IsHeap xs) : ∀ (n j : Nat), j ≤ n → j < xs.length → leI (gt xs 0) (gt xs j) := by
  intro n
  induction n with
  | zero => intro j hj _; rw [show j = 0 by omega]; exact leI_refl _
  | succ n ih =>
    intro j hj hl
    by_cases h0 : j = 0
    · rw [h0]; exact leI_refl _
    · exact leI_trans (ih ((j - 1) / 2) (by omega) (by omega)) (h j (by omega) hl)
/-- the map tells where each stands -/
def AtOK (xs : List It) (mp : Mp) : Prop := (∀ j, j < xs.length → mget mp (gt xs j).2 = some (.int .i64 j)) ∧ ∀ id, (∀ j, j < xs.length → (gt xs j).2 ≠ id) → mget mp id = none
theorem AtOK.inj {xs : List It} {mp : Mp} (h : AtOK xs mp) {i j : Nat} (hi : i < xs.length) (hj : j < xs.length) (e : (gt xs i).2 = (gt xs j).2) : i = j := by
  have h1 := h.1 i hi
  rw [e, h.1 j hj] at h1
  simp at h1; omega
theorem AtOK.swap {xs : List It} {mp mp' : Mp} {i k : Nat} (h : AtOK xs mp) (hi : i < xs.length) (hk : k < xs.length)
    (hm : ∀ q, mget mp' q = if (gt xs i).2 = q then some (.int .i64 k) else if (gt xs k).2 = q then some (.int .i64 i) else mget mp q) : AtOK (swapL xs i k) mp' := by
  have G := gt_swap hi hk
  constructor
  · intro j hj
    rw [swapL_len] at hj
    rw [G, hm]
    by_cases jk : k = j
    · rw [if_pos jk, if_pos rfl, jk]
    · rw [if_neg jk]
      by_cases ji : i = j
      · rw [if_pos ji]
        by_cases e : (gt xs i).2 = (gt xs k).2
        · have := h.inj hi hk e; omega
        · rw [if_neg e, if_pos rfl, ji]
      · rw [if_neg ji, if_neg (fun e => ji (h.inj hi hj e)), if_neg (fun e => jk (h.inj hk hj e))]
        exact h.1 j hj
  · intro id hid
    rw [swapL_len] at hid
    have h1 := hid i hi
    have h2 := hid k hk
    rw [G] at h1 h2
    rw [if_pos rfl] at h2
    have h3 : (gt xs k).2 ≠ id := by
      by_cases e : k = i
      · subst e; exact h2
      · rw [if_neg e, if_pos rfl] at h1; exact h1
    rw [hm, if_neg h2, if_neg h3]
    refine h.2 id fun j hj => ?_
    have := hid j hj
    rw [G] at this
    by_cases jk : k = j
    · subst jk; exact h3
    · rw [if_neg jk] at this
      by_cases ji : i = j
      · subst ji; exact h2
      · rw [if_neg ji] at this; exact this
end Go.Proofs.Ythbcdffldcdfoaa
/- Walks: items compared, and exchanged. -/
set_option linter.unusedVariables false
set_option linter.unusedSimpArgs false
set_option linter.unnecessarySimpa false
/- short -/
namespace Go.Proofs.Ythbcdffldcdfoaa
open Go Lg

theorem Lg.CodeJ.rowSome {C : Ctx} {Q : Exit → Act → World → Prop} {σ : Env} {ds : List Nat} {I : Imm} {δ : List Ent} {cd : Code} {A : Option Addr} {c n size : Nat} {e : TypeId} {xs : List Value} (hd : Has δ (.row (.slice A n c) e size n xs)) (hn : 0 < n)
    (h : A.isSome = true → n ≤ c → CodeJ C cd Q σ ds I δ) : CodeJ C cd Q σ ds I δ := by
  intro a w he hs ht
  have hr : w.ownsRow 0 e size (.slice A n c) n xs := hs.ents _ hd.mem
  rcases hr.2 with ⟨h1, h2⟩ | ⟨g, cap, cur, h1, _, _, h3, _⟩
  · omega
  · cases h1
    exact h rfl h3 a w he hs ht
abbrev HeapE (hb mb : Nat) (A : Option Addr) (c : Nat) (xs : List It) (mp : Mp) : List Ent := [.box hb 97 [.slice A xs.length c, .map (some mb)], .row (.slice A xs.length c) 57 2 xs.length (itL xs), .map mb mp]
theorem ld_it {xs : List It} {i : Nat} (h : i < xs.length) : ld true 2 ((itL xs).drop (i * 2)) = some (.agg #[.int .i64 (gt xs i).1, .int .i64 (gt xs i).2]) := by rw [itL_drop xs i h, gt_at h]; rfl
theorem ld_id {xs : List It} {i : Nat} (h : i < xs.length) : ld false 1 ((itL xs).drop (i * 2 + 1)) = some (.int .i64 (gt xs i).2) := ld_at (by rw [(itL_at xs i h).2, gt_at h])
theorem stL_it {xs : List It} {i : Nat} (h : i < xs.length) (y : It) : Lg.stL (itL xs) (i * 2) [.int .i64 y.1, .int .i64 y.2] = some (itL (xs.set i y)) := by
  obtain ⟨h1, h2⟩ := itL_at xs i h
  rw [itL_set xs i y h]; exact stL_two h1 h2
theorem or_ltB (a b : It) : decide (orI [ordI a.1 b.1, ordI a.2 b.2] < 0) = ltB a b := by
  have h : orI [ordI a.1 b.1, ordI a.2 b.2] < 0 ↔ (a.1 < b.1 ∨ (a.1 = b.1 ∧ a.2 < b.2)) := by
    simp only [orI, ordI]
    by_cases h1 : a.1 < b.1
    · simp [h1]
    · by_cases h2 : b.1 < a.1
      · simp [h1, h2]; omega
      · have e : a.1 = b.1 := by omega
        by_cases h3 : a.2 < b.2
        · simp [e, h3]
        · by_cases h4 : b.2 < a.2
          · simp [e, h3, h4]
          · simp [e, h3, h4]
  rw [Bool.eq_iff_iff, ltB_iff, decide_eq_true_eq, h]
theorem ordI_inR (a b : Int) : InR (ordI a b) := by have := ordI_range a b; unfold InR; omega
theorem less_does {I : Imm} {hb mb c : Nat} {A : Option Addr} {xs : List It} {mp : Mp} {i k : Nat} (hi : i < xs.length) (hk : k < xs.length) (hl : xs.length ≤ 1000000000) :
    Does Try.prog 63 [.pointer (some ⟨hb, 0, none⟩), .int .i64 i, .int .i64 k] I (HeapE hb mb A c xs mp) (fun v _ δ' => v = .bool (ltB (gt xs i) (gt xs k)) ∧ δ' = HeapE hb mb A c xs mp) := by
  refine Does.intro Try.func63 rfl Try.ntmps63 rfl fun w0 => ?_
  refine code_seq ?_
  refine code_region ?_
  refine op_v (v_assign rfl) rfl ?_
  refine ops_nil ?_
  refine post_next ?_
  refine code_seq_meet (fun σ' I' δ' => ∃ b7' b8' : Nat, σ' = [(7, .pointer (some ⟨b7', 0, none⟩)), (8, .pointer (some ⟨b8', 0, none⟩))] ∧ I = I' ∧ δ' = .box b8' 57 [.int .i64 (gt xs k).1, .int .i64 (gt xs k).2] :: .box b7' 57 [.int .i64 (gt xs i).1, .int .i64 (gt xs i).2] :: HeapE hb mb A c xs mp) ?_ ?_
  · refine CodeJ.rowSome (Has.there Has.here) (by omega) (fun hA hcr => ?_)
    refine code_draw (.fl 0 (.fl 1 (.fl 2 (.fl 3 (.fl 4 (.fl 5 (.fl 6 (.fl 7 (.fl 8 (.fl 9 (.fl 10 (.fl 11 (.fl 12 (.fl 13 (.two 14 15 (.ef 15 (.ef 16 (.ef 17 .done))) (.ef 14 (.ef 16 (.ef 17 .done)))))))))))))))))) (fun _ => HeapE hb mb A c xs mp) mixed (by kernel_rfl) (by kernel_rfl) (fun _ => (List.Sublist.refl _)) ?_
    refine e_fl rfl rfl (fun hs_ => PF.mk rfl (v_move rfl) hs_) ?_
    refine e_fl rfl rfl (fun hs_ => PF.mk rfl (v_nilCheck rfl) hs_) ?_
    first | refine e_fl rfl rfl (fun hs_ => PF.mk rfl (v_fieldB 0 Try.underlying97 rfl rfl fz51 rfl) hs_) ?_ | refine e_fl rfl rfl (fun hs_ => PF.mk rfl (v_fieldI 0 Try.underlying97 rfl rfl fz51 rfl (by assumption)) hs_) ?_ | refine e_fl rfl rfl (fun hs_ => PF.mk rfl (v_field Try.underlying97 rfl fz51 rfl rfl) hs_) ?_
    refine e_fl rfl rfl (fun hs_ => PF.mk rfl (v_loadA ty51 rfl rfl) hs_) ?_
    refine e_fl rfl rfl (fun hs_ => PF.mk rfl (v_move rfl) hs_) ?_
    first | refine e_fl rfl rfl (fun hs_ => PF.mk rfl (v_indexA Try.underlying51 sz57 rfl rfl) hs_) ?_ | refine e_fl rfl rfl (fun hs_ => PF.mk rfl (v_indexIA Try.underlying51 sz57 rfl rfl) hs_) ?_
    refine e_fl rfl rfl (fun hs_ => PF.mk rfl (v_loadRow ty57 rfl (Has.there Has.here) hA (ld_it hi)) hs_) ?_
    refine e_fl rfl rfl (fun hs_ => PF.mk rfl (v_move rfl) hs_) ?_
    refine e_fl rfl rfl (fun hs_ => PF.mk rfl (v_nilCheck rfl) hs_) ?_
    first | refine e_fl rfl rfl (fun hs_ => PF.mk rfl (v_fieldB 0 Try.underlying97 rfl rfl fz51 rfl) hs_) ?_ | refine e_fl rfl rfl (fun hs_ => PF.mk rfl (v_fieldI 0 Try.underlying97 rfl rfl fz51 rfl (by assumption)) hs_) ?_ | refine e_fl rfl rfl (fun hs_ => PF.mk rfl (v_field Try.underlying97 rfl fz51 rfl rfl) hs_) ?_
    refine e_fl rfl rfl (fun hs_ => PF.mk rfl (v_loadA ty51 rfl rfl) hs_) ?_
    refine e_fl rfl rfl (fun hs_ => PF.mk rfl (v_move rfl) hs_) ?_
    first | refine e_fl rfl rfl (fun hs_ => PF.mk rfl (v_indexA Try.underlying51 sz57 rfl rfl) hs_) ?_ | refine e_fl rfl rfl (fun hs_ => PF.mk rfl (v_indexIA Try.underlying51 sz57 rfl rfl) hs_) ?_
    refine e_fl rfl rfl (fun hs_ => PF.mk rfl (v_loadRow ty57 rfl (by repeat (first | exact Has.here | apply Has.there)) hA (ld_it hk)) hs_) ?_
    refine e_two rfl (by intro cs b hc; cases hc) (by intro c hc; cases hc) rfl (by intro cs b hc; cases hc) (by intro c hc; cases hc) ?_ ?_
    · refine o_alloc z57 rfl rfl (fun b7 => ?_)
      refine ops_nil ?_
      refine e_next rfl side_allA ?_
      refine e_eff rfl (by intro cs b hc; cases hc) (by intro c hc; cases hc) ?_
      refine o_alloc z57 rfl rfl (fun b8 => ?_)
      refine ops_nil ?_
      refine e_next rfl side_allA ?_
      refine e_eff rfl (by intro cs b hc; cases hc) (by intro c hc; cases hc) ?_
      refine o_store ty57 rfl rfl rfl rfl rfl (by repeat (first | exact Swap.here | apply Swap.there)) rfl ?_
      refine ops_nil ?_
      refine e_next_ side_allA ?_
      refine e_eff rfl (by intro cs b hc; cases hc) (by intro c hc; cases hc) ?_
      refine o_store ty57 rfl rfl rfl rfl rfl (by repeat (first | exact Swap.here | apply Swap.there)) rfl ?_
      refine ops_nil ?_
      refine e_next_ (side_nil (by kernel_rfl)) ?_
      refine e_done ?_
      first | exact post_meet _ ⟨b7, b8, rfl, rfl, rfl⟩ ⟨rfl, rfl, trivial⟩ | (refine PostJ.view (View.perm (List.Perm.swap _ _ _)) ?_; exact post_meet _ ⟨b7, b8, rfl, rfl, rfl⟩ ⟨rfl, rfl, trivial⟩)
    · refine o_alloc z57 rfl rfl (fun b8 => ?_)
      refine ops_nil ?_
      refine e_next rfl side_allA ?_
      refine e_eff rfl (by intro cs b hc; cases hc) (by intro c hc; cases hc) ?_
      refine o_alloc z57 rfl rfl (fun b7 => ?_)
      refine ops_nil ?_
      refine e_next rfl side_allA ?_
      refine e_eff rfl (by intro cs b hc; cases hc) (by intro c hc; cases hc) ?_
      refine o_store ty57 rfl rfl rfl rfl rfl (by repeat (first | exact Swap.here | apply Swap.there)) rfl ?_
      refine ops_nil ?_
      refine e_next_ side_allA ?_
      refine e_eff rfl (by intro cs b hc; cases hc) (by intro c hc; cases hc) ?_
      refine o_store ty57 rfl rfl rfl rfl rfl (by repeat (first | exact Swap.here | apply Swap.there)) rfl ?_
      refine ops_nil ?_
      refine e_next_ (side_nil (by kernel_rfl)) ?_
      refine e_done ?_
      first | exact post_meet _ ⟨b7, b8, rfl, rfl, rfl⟩ ⟨rfl, rfl, trivial⟩ | (refine PostJ.view (View.perm (List.Perm.swap _ _ _)) ?_; exact post_meet _ ⟨b7, b8, rfl, rfl, rfl⟩ ⟨rfl, rfl, trivial⟩)
  · rintro _ _ _ ⟨b7', b8', rfl, rfl, rfl⟩
    refine code_seq ?_
    refine code_draw (.fl 0 (.fl 1 (.fl 2 (.fl 3 (.fl 5 (.fl 6 (.fl 7 (.fl 8 (.ef 4 (.ef 9 (.ef 10 (.ef 11 (.fl 12 (.ef 13 .done)))))))))))))) (fun _ => _) mixed (by kernel_rfl) (by kernel_rfl) (fun _ => (List.Sublist.refl _)) ?_
    first | refine e_fl rfl rfl (fun hs_ => PF.mk rfl (v_fieldB 0 Try.underlying57 rfl rfl fz3 rfl) hs_) ?_ | refine e_fl rfl rfl (fun hs_ => PF.mk rfl (v_fieldI 0 Try.underlying57 rfl rfl fz3 rfl (by assumption)) hs_) ?_ | refine e_fl rfl rfl (fun hs_ => PF.mk rfl (v_field Try.underlying57 rfl fz3 rfl rfl) hs_) ?_
    refine e_fl rfl rfl (fun hs_ => PF.mk rfl (v_loadA ty3 rfl rfl) hs_) ?_
    first | refine e_fl rfl rfl (fun hs_ => PF.mk rfl (v_fieldB 0 Try.underlying57 rfl rfl fz3 rfl) hs_) ?_ | refine e_fl rfl rfl (fun hs_ => PF.mk rfl (v_fieldI 0 Try.underlying57 rfl rfl fz3 rfl (by assumption)) hs_) ?_ | refine e_fl rfl rfl (fun hs_ => PF.mk rfl (v_field Try.underlying57 rfl fz3 rfl rfl) hs_) ?_
    refine e_fl rfl rfl (fun hs_ => PF.mk rfl (v_loadA ty3 rfl rfl) hs_) ?_
    first | refine e_fl rfl rfl (fun hs_ => PF.mk rfl (v_fieldB 1 Try.underlying57 rfl rfl fz3 rfl) hs_) ?_ | refine e_fl rfl rfl (fun hs_ => PF.mk rfl (v_fieldI 1 Try.underlying57 rfl rfl fz3 rfl (by assumption)) hs_) ?_ | refine e_fl rfl rfl (fun hs_ => PF.mk rfl (v_field Try.underlying57 rfl fz3 rfl rfl) hs_) ?_
    refine e_fl rfl rfl (fun hs_ => PF.mk rfl (v_loadA ty3 rfl rfl) hs_) ?_
    first | refine e_fl rfl rfl (fun hs_ => PF.mk rfl (v_fieldB 1 Try.underlying57 rfl rfl fz3 rfl) hs_) ?_ | refine e_fl rfl rfl (fun hs_ => PF.mk rfl (v_fieldI 1 Try.underlying57 rfl rfl fz3 rfl (by assumption)) hs_) ?_ | refine e_fl rfl rfl (fun hs_ => PF.mk rfl (v_field Try.underlying57 rfl fz3 rfl rfl) hs_) ?_
    refine e_fl rfl rfl (fun hs_ => PF.mk rfl (v_loadA ty3 rfl rfl) hs_) ?_
    refine e_eff rfl (by intro cs b hc; cases hc) (by intro c hc; cases hc) ?_
    refine op_call pl66 rfl rfl ((cmpC_does)) Parts.none ?_
    rintro _ I27 _ hI27 ⟨rfl, rfl⟩
    refine ops_nil ?_
    refine e_next rfl side_allA ?_
    refine e_eff rfl (by intro cs b hc; cases hc) (by intro c hc; cases hc) ?_
    refine op_call pl66 rfl rfl ((cmpC_does)) Parts.none ?_
    rintro _ I32 _ hI32 ⟨rfl, rfl⟩
    refine ops_nil ?_
    refine e_next rfl side_allA ?_
    refine e_eff rfl (by intro cs b hc; cases hc) (by intro c hc; cases hc) ?_
    refine o_buildSlice (xs := [(Go.Operand.tmp 27), (Go.Operand.tmp 32)]) Try.underlying28 bs3 rfl rfl rfl rfl rfl (fun b33 => ?_)
    refine OpsJ.freezeRow Del.here ?_
    rintro I33 a33 c33 hI33 hq hc33 hl33 hcells33
    cases hq
    refine ops_nil ?_
    refine e_next rfl side_allA ?_
    refine e_eff rfl (by intro cs b hc; cases hc) (by intro c hc; cases hc) ?_
    refine op_call pl65 rfl rfl ((Or_does (RInts.of (xs := [ordI (gt xs i).1 (gt xs k).1, ordI (gt xs i).2 (gt xs k).2]) rfl hc33 (by omega) hcells33 (by intro x hx; simp at hx; rcases hx with rfl | rfl <;> exact ordI_inR _ _)))) Parts.none ?_
    rintro _ I34 _ hI34 ⟨rfl, rfl⟩
    refine ops_nil ?_
    refine e_next rfl side_allA ?_
    refine e_fl rfl rfl (fun hs_ => PF.mk rfl (v_cmp (z := ltB (gt xs i) (gt xs k)) rfl rfl (congrArg some (or_ltB _ _))) hs_) ?_
    refine e_eff rfl (by intro cs b hc; cases hc) (by intro c hc; cases hc) ?_
    refine op_v (v_assign rfl) rfl ?_
    refine ops_nil ?_
    refine e_next rfl (side_nil (by kernel_rfl)) ?_
    refine e_done ?_
    refine post_next ?_
    refine code_ret ?_
    refine post_ret (rs := [.tmp 6]) rfl (List.Perm.refl _) (.cons (.tmp rfl) .nil) (List.Sublist.cons _ (List.Sublist.cons _ (List.Sublist.refl _))) ?_
    exact ⟨rfl, rfl⟩
theorem swap_does {I : Imm} {hb mb c : Nat} {A : Option Addr} {xs : List It} {mp : Mp} {i k : Nat} (hi : i < xs.length) (hk : k < xs.length) (hl : xs.length ≤ 1000000000) (hat : AtOK xs mp) :
    Does Try.prog 56 [.pointer (some ⟨hb, 0, none⟩), .int .i64 i, .int .i64 k] I (HeapE hb mb A c xs mp) (fun v _ δ' => ∃ mp', AtOK (swapL xs i k) mp' ∧ δ' = HeapE hb mb A c (swapL xs i k) mp') := by
  have hsl := swapL_len xs i k
  have hset : (xs.set i (gt xs k)).length = xs.length := by simp
  have G := gt_swap hi hk
  have gk : gt (swapL xs i k) k = gt xs i := by rw [G, if_pos rfl]
  have gi : gt (swapL xs i k) i = gt xs k := by rw [G]; split; (rename_i e; rw [e]); rw [if_pos rfl]
  refine Does.intro Try.func56 rfl Try.ntmps56 rfl fun w0 => ?_
  refine code_seq ?_
  refine CodeJ.rowSome (Has.there Has.here) (by omega) (fun hA hcr => ?_)
  refine code_draw (.fl 0 (.fl 1 (.fl 2 (.fl 3 (.fl 4 (.fl 5 (.fl 6 (.fl 7 (.fl 8 (.fl 9 (.fl 10 (.fl 11 (.fl 12 (.fl 13 (.fl 14 (.fl 15 (.fl 16 (.fl 17 (.fl 18 (.fl 19 (.fl 20 (.fl 21 (.fl 22 (.fl 23 (.fl 24 (.ef 25 (.fl 26 (.ef 27 .done)))))))))))))))))))))))))))) (keepP [3, 8, 13, 16, 20, 23] (HeapE hb mb A c xs mp)) mixed (by kernel_rfl) (by kernel_rfl) (keepP_sub (List.Sublist.refl _)) ?_
  refine e_float rfl rfl (fun hs_ => PF.mk rfl (v_move rfl) hs_) Imm.leA (by first | exact keepP_mem (by intro x hx; exact hx) _ | exact (fun x hx => nomatch (show x ∈ ([] : List Ent) from hx))) ?_
  refine e_float rfl rfl (fun hs_ => PF.mk rfl (v_nilCheck rfl) hs_) Imm.leA (by first | exact keepP_mem (by intro x hx; exact hx) _ | exact (fun x hx => nomatch (show x ∈ ([] : List Ent) from hx))) ?_
  first | refine e_float rfl rfl (fun hs_ => PF.mk rfl (v_fieldB 0 Try.underlying97 rfl rfl fz51 rfl) hs_) Imm.leA (by first | exact keepP_mem (by intro x hx; exact hx) _ | exact (fun x hx => nomatch (show x ∈ ([] : List Ent) from hx))) ?_ | refine e_float rfl rfl (fun hs_ => PF.mk rfl (v_fieldI 0 Try.underlying97 rfl rfl fz51 rfl (by assumption)) hs_) Imm.leA (by first | exact keepP_mem (by intro x hx; exact hx) _ | exact (fun x hx => nomatch (show x ∈ ([] : List Ent) from hx))) ?_ | refine e_float rfl rfl (fun hs_ => PF.mk rfl (v_field Try.underlying97 rfl fz51 rfl rfl) hs_) Imm.leA (by first | exact keepP_mem (by intro x hx; exact hx) _ | exact (fun x hx => nomatch (show x ∈ ([] : List Ent) from hx))) ?_
  refine e_float rfl rfl (fun hs_ => PF.mk rfl (v_loadA ty51 rfl rfl) hs_) Imm.leA (by first | exact keepP_mem (by intro x hx; exact hx) _ | exact (fun x hx => nomatch (show x ∈ ([] : List Ent) from hx))) ?_
  refine e_float rfl rfl (fun hs_ => PF.mk rfl (v_move rfl) hs_) Imm.leA (by first | exact keepP_mem (by intro x hx; exact hx) _ | exact (fun x hx => nomatch (show x ∈ ([] : List Ent) from hx))) ?_
  refine e_float rfl rfl (fun hs_ => PF.mk rfl (v_move rfl) hs_) Imm.leA (by first | exact keepP_mem (by intro x hx; exact hx) _ | exact (fun x hx => nomatch (show x ∈ ([] : List Ent) from hx))) ?_
  refine e_float rfl rfl (fun hs_ => PF.mk rfl (v_nilCheck rfl) hs_) Imm.leA (by first | exact keepP_mem (by intro x hx; exact hx) _ | exact (fun x hx => nomatch (show x ∈ ([] : List Ent) from hx))) ?_
  first | refine e_float rfl rfl (fun hs_ => PF.mk rfl (v_fieldB 0 Try.underlying97 rfl rfl fz51 rfl) hs_) Imm.leA (by first | exact keepP_mem (by intro x hx; exact hx) _ | exact (fun x hx => nomatch (show x ∈ ([] : List Ent) from hx))) ?_ | refine e_float rfl rfl (fun hs_ => PF.mk rfl (v_fieldI 0 Try.underlying97 rfl rfl fz51 rfl (by assumption)) hs_) Imm.leA (by first | exact keepP_mem (by intro x hx; exact hx) _ | exact (fun x hx => nomatch (show x ∈ ([] : List Ent) from hx))) ?_ | refine e_float rfl rfl (fun hs_ => PF.mk rfl (v_field Try.underlying97 rfl fz51 rfl rfl) hs_) Imm.leA (by first | exact keepP_mem (by intro x hx; exact hx) _ | exact (fun x hx => nomatch (show x ∈ ([] : List Ent) from hx))) ?_
  refine e_float rfl rfl (fun hs_ => PF.mk rfl (v_loadA ty51 rfl rfl) hs_) Imm.leA (by first | exact keepP_mem (by intro x hx; exact hx) _ | exact (fun x hx => nomatch (show x ∈ ([] : List Ent) from hx))) ?_
  refine e_float rfl rfl (fun hs_ => PF.mk rfl (v_move rfl) hs_) Imm.leA (by first | exact keepP_mem (by intro x hx; exact hx) _ | exact (fun x hx => nomatch (show x ∈ ([] : List Ent) from hx))) ?_
  refine e_float rfl rfl (fun hs_ => PF.mk rfl (v_move rfl) hs_) Imm.leA (by first | exact keepP_mem (by intro x hx; exact hx) _ | exact (fun x hx => nomatch (show x ∈ ([] : List Ent) from hx))) ?_
  refine e_float rfl rfl (fun hs_ => PF.mk rfl (v_nilCheck rfl) hs_) Imm.leA (by first | exact keepP_mem (by intro x hx; exact hx) _ | exact (fun x hx => nomatch (show x ∈ ([] : List Ent) from hx))) ?_
  first | refine e_float rfl rfl (fun hs_ => PF.mk rfl (v_fieldB 0 Try.underlying97 rfl rfl fz51 rfl) hs_) Imm.leA (by first | exact keepP_mem (by intro x hx; exact hx) _ | exact (fun x hx => nomatch (show x ∈ ([] : List Ent) from hx))) ?_ | refine e_float rfl rfl (fun hs_ => PF.mk rfl (v_fieldI 0 Try.underlying97 rfl rfl fz51 rfl (by assumption)) hs_) Imm.leA (by first | exact keepP_mem (by intro x hx; exact hx) _ | exact (fun x hx => nomatch (show x ∈ ([] : List Ent) from hx))) ?_ | refine e_float rfl rfl (fun hs_ => PF.mk rfl (v_field Try.underlying97 rfl fz51 rfl rfl) hs_) Imm.leA (by first | exact keepP_mem (by intro x hx; exact hx) _ | exact (fun x hx => nomatch (show x ∈ ([] : List Ent) from hx))) ?_
  refine e_float rfl rfl (fun hs_ => PF.mk rfl (v_loadA ty51 rfl rfl) hs_) Imm.leA (by first | exact keepP_mem (by intro x hx; exact hx) _ | exact (fun x hx => nomatch (show x ∈ ([] : List Ent) from hx))) ?_
  refine e_float rfl rfl (fun hs_ => PF.mk rfl (v_move rfl) hs_) Imm.leA (by first | exact keepP_mem (by intro x hx; exact hx) _ | exact (fun x hx => nomatch (show x ∈ ([] : List Ent) from hx))) ?_
  first | refine e_float rfl rfl (fun hs_ => PF.mk rfl (v_indexA Try.underlying51 sz57 rfl rfl) hs_) Imm.leA (by first | exact keepP_mem (by intro x hx; exact hx) _ | exact (fun x hx => nomatch (show x ∈ ([] : List Ent) from hx))) ?_ | refine e_float rfl rfl (fun hs_ => PF.mk rfl (v_indexIA Try.underlying51 sz57 rfl rfl) hs_) Imm.leA (by first | exact keepP_mem (by intro x hx; exact hx) _ | exact (fun x hx => nomatch (show x ∈ ([] : List Ent) from hx))) ?_
  refine e_float rfl rfl (fun hs_ => PF.mk rfl (v_loadRow ty57 rfl (Has.there Has.here) hA (ld_it hk)) hs_) Imm.leA (by first | exact keepP_mem (by intro x hx; exact hx) _ | exact (fun x hx => nomatch (show x ∈ ([] : List Ent) from hx))) ?_
  refine e_float rfl rfl (fun hs_ => PF.mk rfl (v_move rfl) hs_) Imm.leA (by first | exact keepP_mem (by intro x hx; exact hx) _ | exact (fun x hx => nomatch (show x ∈ ([] : List Ent) from hx))) ?_
  refine e_float rfl rfl (fun hs_ => PF.mk rfl (v_nilCheck rfl) hs_) Imm.leA (by first | exact keepP_mem (by intro x hx; exact hx) _ | exact (fun x hx => nomatch (show x ∈ ([] : List Ent) from hx))) ?_
  first | refine e_float rfl rfl (fun hs_ => PF.mk rfl (v_fieldB 0 Try.underlying97 rfl rfl fz51 rfl) hs_) Imm.leA (by first | exact keepP_mem (by intro x hx; exact hx) _ | exact (fun x hx => nomatch (show x ∈ ([] : List Ent) from hx))) ?_ | refine e_float rfl rfl (fun hs_ => PF.mk rfl (v_fieldI 0 Try.underlying97 rfl rfl fz51 rfl (by assumption)) hs_) Imm.leA (by first | exact keepP_mem (by intro x hx; exact hx) _ | exact (fun x hx => nomatch (show x ∈ ([] : List Ent) from hx))) ?_ | refine e_float rfl rfl (fun hs_ => PF.mk rfl (v_field Try.underlying97 rfl fz51 rfl rfl) hs_) Imm.leA (by first | exact keepP_mem (by intro x hx; exact hx) _ | exact (fun x hx => nomatch (show x ∈ ([] : List Ent) from hx))) ?_
  refine e_float rfl rfl (fun hs_ => PF.mk rfl (v_loadA ty51 rfl rfl) hs_) Imm.leA (by first | exact keepP_mem (by intro x hx; exact hx) _ | exact (fun x hx => nomatch (show x ∈ ([] : List Ent) from hx))) ?_
  refine e_float rfl rfl (fun hs_ => PF.mk rfl (v_move rfl) hs_) Imm.leA (by first | exact keepP_mem (by intro x hx; exact hx) _ | exact (fun x hx => nomatch (show x ∈ ([] : List Ent) from hx))) ?_
  first | refine e_float rfl rfl (fun hs_ => PF.mk rfl (v_indexA Try.underlying51 sz57 rfl rfl) hs_) Imm.leA (by first | exact keepP_mem (by intro x hx; exact hx) _ | exact (fun x hx => nomatch (show x ∈ ([] : List Ent) from hx))) ?_ | refine e_float rfl rfl (fun hs_ => PF.mk rfl (v_indexIA Try.underlying51 sz57 rfl rfl) hs_) Imm.leA (by first | exact keepP_mem (by intro x hx; exact hx) _ | exact (fun x hx => nomatch (show x ∈ ([] : List Ent) from hx))) ?_
  refine e_float rfl rfl (fun hs_ => PF.mk rfl (v_loadRow ty57 rfl (Has.there Has.here) hA (ld_it hi)) hs_) Imm.leA (by first | exact keepP_mem (by intro x hx; exact hx) _ | exact (fun x hx => nomatch (show x ∈ ([] : List Ent) from hx))) ?_
  first | refine e_float rfl rfl (fun hs_ => PF.mk rfl (v_indexA Try.underlying51 sz57 rfl rfl) hs_) Imm.leA (by first | exact keepP_mem (by intro x hx; exact hx) _ | exact (fun x hx => nomatch (show x ∈ ([] : List Ent) from hx))) ?_ | refine e_float rfl rfl (fun hs_ => PF.mk rfl (v_indexIA Try.underlying51 sz57 rfl rfl) hs_) Imm.leA (by first | exact keepP_mem (by intro x hx; exact hx) _ | exact (fun x hx => nomatch (show x ∈ ([] : List Ent) from hx))) ?_
  refine e_eff rfl (by intro cs b hc; cases hc) (by intro c hc; cases hc) ?_
  refine o_storeRow (xs' := itL (xs.set i (gt xs k))) ty57 rfl rfl hA rfl rfl rfl (by simp [cellsL]) (Swap.there Swap.here) (stL_it hi (gt xs k)) ?_
  refine ops_nil ?_
  refine e_next_ (side_P (by kernel_rfl) Imm.leA) ?_
  first | refine e_float rfl rfl (fun hs_ => PF.mk rfl (v_indexA Try.underlying51 sz57 rfl rfl) hs_) Imm.leA (by first | exact keepP_mem (by intro x hx; exact hx) _ | exact (fun x hx => nomatch (show x ∈ ([] : List Ent) from hx))) ?_ | refine e_float rfl rfl (fun hs_ => PF.mk rfl (v_indexIA Try.underlying51 sz57 rfl rfl) hs_) Imm.leA (by first | exact keepP_mem (by intro x hx; exact hx) _ | exact (fun x hx => nomatch (show x ∈ ([] : List Ent) from hx))) ?_
  refine e_eff rfl (by intro cs b hc; cases hc) (by intro c hc; cases hc) ?_
  refine o_storeRow (xs' := itL (swapL xs i k)) ty57 rfl rfl hA rfl rfl rfl (by simp [cellsL]) (Swap.there Swap.here) (stL_it (xs := xs.set i (gt xs k)) (by rw [hset]; exact hk) (gt xs i)) ?_
  refine ops_nil ?_
  refine e_next_ (side_nil (by kernel_rfl)) ?_
  refine e_done ?_
  refine post_next ?_
  refine code_draw (.fl 0 (.fl 1 (.fl 2 (.fl 3 (.fl 4 (.fl 5 (.fl 6 (.fl 7 (.fl 8 (.fl 9 (.fl 10 (.fl 11 (.fl 12 (.fl 13 (.fl 14 (.fl 15 (.fl 16 (.fl 17 (.fl 18 (.fl 19 (.fl 20 (.fl 21 (.fl 22 (.fl 23 (.fl 24 (.fl 25 (.ef 26 (.fl 27 (.ef 28 (.ef 29 (.fl 30 (.ef 31 .done)))))))))))))))))))))))))))))))) (fun _ => [.box hb 97 [.slice A xs.length c, .map (some mb)], .row (.slice A xs.length c) 57 2 xs.length (itL (swapL xs i k))]) mixed (by kernel_rfl) (by kernel_rfl) (fun _ => (List.Sublist.cons_cons _ (List.Sublist.cons_cons _ (List.nil_sublist _)))) ?_
  refine e_fl rfl rfl (fun hs_ => PF.mk rfl (v_move rfl) hs_) ?_
  refine e_fl rfl rfl (fun hs_ => PF.mk rfl (v_nilCheck rfl) hs_) ?_
  first | refine e_fl rfl rfl (fun hs_ => PF.mk rfl (v_fieldB 1 Try.underlying97 rfl rfl fz95 rfl) hs_) ?_ | refine e_fl rfl rfl (fun hs_ => PF.mk rfl (v_fieldI 1 Try.underlying97 rfl rfl fz95 rfl (by assumption)) hs_) ?_ | refine e_fl rfl rfl (fun hs_ => PF.mk rfl (v_field Try.underlying97 rfl fz95 rfl rfl) hs_) ?_
  refine e_fl rfl rfl (fun hs_ => PF.mk rfl (v_loadA ty95 rfl rfl) hs_) ?_
  refine e_fl rfl rfl (fun hs_ => PF.mk rfl (v_move rfl) hs_) ?_
  refine e_fl rfl rfl (fun hs_ => PF.mk rfl (v_nilCheck rfl) hs_) ?_
  first | refine e_fl rfl rfl (fun hs_ => PF.mk rfl (v_fieldB 0 Try.underlying97 rfl rfl fz51 rfl) hs_) ?_ | refine e_fl rfl rfl (fun hs_ => PF.mk rfl (v_fieldI 0 Try.underlying97 rfl rfl fz51 rfl (by assumption)) hs_) ?_ | refine e_fl rfl rfl (fun hs_ => PF.mk rfl (v_field Try.underlying97 rfl fz51 rfl rfl) hs_) ?_
  refine e_fl rfl rfl (fun hs_ => PF.mk rfl (v_loadA ty51 rfl rfl) hs_) ?_
  refine e_fl rfl rfl (fun hs_ => PF.mk rfl (v_move rfl) hs_) ?_
  first | refine e_fl rfl rfl (fun hs_ => PF.mk rfl (v_indexA Try.underlying51 sz57 rfl rfl) hs_) ?_ | refine e_fl rfl rfl (fun hs_ => PF.mk rfl (v_indexIA Try.underlying51 sz57 rfl rfl) hs_) ?_
  first | refine e_fl rfl rfl (fun hs_ => PF.mk rfl (v_fieldB 1 Try.underlying57 rfl rfl fz3 rfl) hs_) ?_ | refine e_fl rfl rfl (fun hs_ => PF.mk rfl (v_fieldI 1 Try.underlying57 rfl rfl fz3 rfl (by assumption)) hs_) ?_ | refine e_fl rfl rfl (fun hs_ => PF.mk rfl (v_field Try.underlying57 rfl fz3 rfl rfl) hs_) ?_
  refine e_fl rfl rfl (fun hs_ => PF.mk rfl (v_loadRow ty3 rfl (Has.there Has.here) hA (ld_id (xs := swapL xs i k) (by rw [hsl]; exact hi))) hs_) ?_
  refine e_fl rfl rfl (fun hs_ => PF.mk rfl (v_move rfl) hs_) ?_
  refine e_fl rfl rfl (fun hs_ => PF.mk rfl (v_nilCheck rfl) hs_) ?_
  first | refine e_fl rfl rfl (fun hs_ => PF.mk rfl (v_fieldB 1 Try.underlying97 rfl rfl fz95 rfl) hs_) ?_ | refine e_fl rfl rfl (fun hs_ => PF.mk rfl (v_fieldI 1 Try.underlying97 rfl rfl fz95 rfl (by assumption)) hs_) ?_ | refine e_fl rfl rfl (fun hs_ => PF.mk rfl (v_field Try.underlying97 rfl fz95 rfl rfl) hs_) ?_
  refine e_fl rfl rfl (fun hs_ => PF.mk rfl (v_loadA ty95 rfl rfl) hs_) ?_
  refine e_fl rfl rfl (fun hs_ => PF.mk rfl (v_move rfl) hs_) ?_
  refine e_fl rfl rfl (fun hs_ => PF.mk rfl (v_nilCheck rfl) hs_) ?_
  first | refine e_fl rfl rfl (fun hs_ => PF.mk rfl (v_fieldB 0 Try.underlying97 rfl rfl fz51 rfl) hs_) ?_ | refine e_fl rfl rfl (fun hs_ => PF.mk rfl (v_fieldI 0 Try.underlying97 rfl rfl fz51 rfl (by assumption)) hs_) ?_ | refine e_fl rfl rfl (fun hs_ => PF.mk rfl (v_field Try.underlying97 rfl fz51 rfl rfl) hs_) ?_
  refine e_fl rfl rfl (fun hs_ => PF.mk rfl (v_loadA ty51 rfl rfl) hs_) ?_
  refine e_fl rfl rfl (fun hs_ => PF.mk rfl (v_move rfl) hs_) ?_
  first | refine e_fl rfl rfl (fun hs_ => PF.mk rfl (v_indexA Try.underlying51 sz57 rfl rfl) hs_) ?_ | refine e_fl rfl rfl (fun hs_ => PF.mk rfl (v_indexIA Try.underlying51 sz57 rfl rfl) hs_) ?_
  first | refine e_fl rfl rfl (fun hs_ => PF.mk rfl (v_fieldB 1 Try.underlying57 rfl rfl fz3 rfl) hs_) ?_ | refine e_fl rfl rfl (fun hs_ => PF.mk rfl (v_fieldI 1 Try.underlying57 rfl rfl fz3 rfl (by assumption)) hs_) ?_ | refine e_fl rfl rfl (fun hs_ => PF.mk rfl (v_field Try.underlying57 rfl fz3 rfl rfl) hs_) ?_
  refine e_fl rfl rfl (fun hs_ => PF.mk rfl (v_loadRow ty3 rfl (Has.there Has.here) hA (ld_id (xs := swapL xs i k) (by rw [hsl]; exact hk))) hs_) ?_
  refine e_fl rfl rfl (fun hs_ => PF.mk rfl (v_move rfl) hs_) ?_
  refine e_fl rfl rfl (fun hs_ => PF.mk rfl (v_move rfl) hs_) ?_
  refine e_eff rfl (by intro cs b hc; cases hc) (by intro c hc; cases hc) ?_
  refine o_mapEntry (δ' := fun es ck => [.box hb 97 [.slice A xs.length c, .map (some mb)], .row (.slice A xs.length c) 57 2 xs.length (itL (swapL xs i k)), .obj mb (.map es ck)]) Try.underlying95 Try.underlying3 z3 (by rfl) (by rfl) (by rfl) (fun _ _ => Swap.there (Swap.there Swap.here)) (fun es58 ck58 s58 hmi58 hst58 => ?_)
  refine ops_nil ?_
  refine e_next rfl side_allA ?_
  refine e_fl rfl rfl (fun hs_ => PF.mk rfl (v_extract rfl rfl) hs_) ?_
  refine e_eff rfl (by intro cs b hc; cases hc) (by intro c hc; cases hc) ?_
  refine o_entryStore hmi58 hst58 rfl rfl rfl rfl (Swap.there (Swap.there Swap.here)) ?_
  refine ops_nil ?_
  refine e_next_ side_allA ?_
  refine e_eff rfl (by intro cs b hc; cases hc) (by intro c hc; cases hc) ?_
  refine o_mapEntry (δ' := fun es ck => [.box hb 97 [.slice A xs.length c, .map (some mb)], .row (.slice A xs.length c) 57 2 xs.length (itL (swapL xs i k)), .obj mb (.map es ck)]) Try.underlying95 Try.underlying3 z3 (by rfl) (by rfl) (by rfl) (fun _ _ => Swap.there (Swap.there Swap.here)) (fun es60 ck60 s60 hmi60 hst60 => ?_)
  refine ops_nil ?_
  refine e_next rfl side_allA ?_
  refine e_fl rfl rfl (fun hs_ => PF.mk rfl (v_extract rfl rfl) hs_) ?_
  refine e_eff rfl (by intro cs b hc; cases hc) (by intro c hc; cases hc) ?_
  refine o_entryStore hmi60 hst60 rfl rfl rfl rfl (Swap.there (Swap.there Swap.here)) ?_
  refine ops_nil ?_
  refine e_next_ (side_nil (by kernel_rfl)) ?_
  refine e_done ?_
  have hfin : ∀ m, AtOK (swapL xs i k) m → ∃ mp', AtOK (swapL xs i k) mp' ∧ ([.box hb 97 [.slice A xs.length c, .map (some mb)], .row (.slice A xs.length c) 57 2 xs.length (itL (swapL xs i k)), .map mb m] : List Ent) = HeapE hb mb A c (swapL xs i k) mp' := fun m h => ⟨m, h, by simp only [HeapE, hsl]⟩
  refine post_end (rs := []) rfl (List.Perm.refl _) .nil (List.Sublist.refl _) (hfin _ (hat.swap hi hk ?_))
  intro q; rw [mput_mput, mput_mput, mget_mput, mget_mput, gk, gi]
end Go.Proofs.Ythbcdffldcdfoaa
