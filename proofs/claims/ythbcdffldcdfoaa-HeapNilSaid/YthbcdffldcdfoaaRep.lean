/- How rows of numbers and terms lie in memory. Plain definitions; no condition. -/
import Derived.Test.YthbcdffldcdfoaaLge
namespace Go.Proofs.Ythbcdffldcdfoaa
open Go Lg

def InR (n : Int) : Prop := -9223372036854775808 ≤ n ∧ n ≤ 9223372036854775807

/-- a row of numbers that is only read -/
inductive RInts (I : Imm) : Value → List Int → Prop
  | mk (ad : Option Addr) (c : Nat) (xs : List Int) (hc : xs.length ≤ c) (hb : xs.length ≤ 17592186044416) (hat : Cells I ad (xs.map (Value.int .i64))) (hr : ∀ x ∈ xs, InR x) : RInts I (.slice ad xs.length c) xs

theorem RInts.mono {I J : Imm} {v : Value} {xs : List Int} (h : RInts I v xs) (hl : I.le J) : RInts J v xs := by
  obtain ⟨ad, c, xs, hc, hb, hat, hr⟩ := h
  exact ⟨ad, c, xs, hc, hb, hat.mono hl, hr⟩
theorem RInts.nil (I : Imm) : RInts I (.slice none 0 0) [] := ⟨none, 0, [], Nat.le_refl _, by simp, fun j v hj => by simp at hj, fun x hx => by cases hx⟩

theorem ints_at {I : Imm} {ad : Option Addr} {xs : List Int} (h : Cells I ad (xs.map (Value.int .i64))) (i : Nat) (hi : i < xs.length) : At I ad (i * 1) [.int .i64 xs[i]] :=
  h.at _ fun j v hj => by
    rcases j with _ | j
    · simp at hj; subst hj; simp [hi]
    · simp at hj
theorem ints_some {I : Imm} {ad : Option Addr} {xs : List Int} (h : Cells I ad (xs.map (Value.int .i64))) (i : Nat) (hi : i < xs.length) : ad.isSome = true := (ints_at h i hi).isSome

/-- a term -/
inductive T where
  | mk (head : Int) (args : List T)
def T.head : T → Int | .mk h _ => h
def T.args : T → List T | .mk _ a => a

inductive RepS (I : Imm) : Value → List T → Prop
  | mk (ad : Option Addr) (c : Nat) (ss : Nat → Option Addr × Nat) (ts : List T) (hc : ts.length ≤ c) (hb : ts.length ≤ 4398046511104)
      (hat : ∀ i (h : i < ts.length), At I ad (i * 2) [.int .i64 ts[i].head, .slice (ss i).1 ts[i].args.length (ss i).2]) (hr : ∀ i (h : i < ts.length), InR ts[i].head)
      (sub : ∀ i (h : i < ts.length), RepS I (.slice (ss i).1 ts[i].args.length (ss i).2) ts[i].args) : RepS I (.slice ad ts.length c) ts
theorem RepS.mono {I J : Imm} {v : Value} {ts : List T} (h : RepS I v ts) (hl : I.le J) : RepS J v ts := by
  induction h with
  | mk ad c ss ts hc hb hat hr _ ih => exact ⟨ad, c, ss, ts, hc, hb, fun i h => (hat i h).mono hl, hr, ih⟩
theorem RepS.nil (I : Imm) : RepS I (.slice none 0 0) [] := ⟨none, 0, fun _ => (none, 0), [], Nat.le_refl _, by simp, fun i h => by simp at h, fun i h => by simp at h, fun i h => by simp at h⟩

/-- a term as a value -/
inductive RepT (I : Imm) : Value → T → Prop
  | mk (s : Value) (t : T) (hr : InR t.head) (hs : RepS I s t.args) : RepT I (.agg #[.int .i64 t.head, s]) t
theorem RepT.mono {I J : Imm} {v : Value} {t : T} (h : RepT I v t) (hl : I.le J) : RepT J v t := by
  obtain ⟨s, t, hr, hs⟩ := h
  exact ⟨s, t, hr, hs.mono hl⟩
theorem RepT.elim {I : Imm} {v : Value} {h : Int} {ts : List T} (hv : RepT I v (.mk h ts)) :
    ∃ (ad : Option Addr) (c : Nat) (ss : Nat → Option Addr × Nat), v = .agg #[.int .i64 h, .slice ad ts.length c] ∧ InR h ∧ ts.length ≤ c ∧ ts.length ≤ 4398046511104 ∧ (∀ i (h : i < ts.length), At I ad (i * 2) [.int .i64 ts[i].head, .slice (ss i).1 ts[i].args.length (ss i).2]) ∧
      (∀ i (h : i < ts.length), RepT I (.agg #[.int .i64 ts[i].head, .slice (ss i).1 ts[i].args.length (ss i).2]) ts[i]) := by
  obtain ⟨s, t, hr, hs⟩ := hv
  obtain ⟨ad, c, ss, ts, hc, hb, hat, hrs, hsub⟩ := hs
  exact ⟨ad, c, ss, rfl, hr, hc, hb, hat, fun i hi => RepT.mk _ _ (hrs i hi) (hsub i hi)⟩
theorem RepT.intro {I : Imm} {h : Int} {ad : Option Addr} {c : Nat} {ts : List T} (ss : Nat → Option Addr × Nat) (hr : InR h) (hc : ts.length ≤ c) (hb : ts.length ≤ 4398046511104) (hat : ∀ i (h : i < ts.length), At I ad (i * 2) [.int .i64 ts[i].head, .slice (ss i).1 ts[i].args.length (ss i).2])
    (hsub : ∀ i (h : i < ts.length), RepT I (.agg #[.int .i64 ts[i].head, .slice (ss i).1 ts[i].args.length (ss i).2]) ts[i]) : RepT I (.agg #[.int .i64 h, .slice ad ts.length c]) (.mk h ts) := by
  have key : ∀ (v : Value) (t : T) (s : Value), RepT I v t → v = .agg #[.int .i64 t.head, s] → InR t.head ∧ RepS I s t.args := fun v t s hv e => by
    obtain ⟨s', t, hr, hs⟩ := hv
    have e' : s' = s := by simpa using e
    subst e'
    exact ⟨hr, hs⟩
  exact RepT.mk _ (.mk h ts) hr ⟨ad, c, ss, ts, hc, hb, hat, fun i hi => (key _ _ _ (hsub i hi) rfl).1, fun i hi => (key _ _ _ (hsub i hi) rfl).2⟩


/-- cells of terms, one behind the other -/
def RowT (I : Imm) (xs : List Value) (ts : List T) : Prop :=
  xs.length = ts.length * 2 ∧ ∀ i (h : i < ts.length), ∃ s : Option Addr × Nat, xs[i * 2]? = some (.int .i64 ts[i].head) ∧ xs[i * 2 + 1]? = some (.slice s.1 ts[i].args.length s.2) ∧ RepT I (.agg #[.int .i64 ts[i].head, .slice s.1 ts[i].args.length s.2]) ts[i]
theorem RowT.nil (I : Imm) : RowT I [] [] := ⟨rfl, fun i h => by simp at h⟩
theorem RowT.mono {I J : Imm} {xs : List Value} {ts : List T} (h : RowT I xs ts) (hl : I.le J) : RowT J xs ts :=
  ⟨h.1, fun i hi => let ⟨s, h1, h2, h3⟩ := h.2 i hi; ⟨s, h1, h2, h3.mono hl⟩⟩
theorem RowT.app {I : Imm} {xs ys : List Value} {ts us : List T} (h : RowT I xs ts) (k : RowT I ys us) : RowT I (xs ++ ys) (ts ++ us) := by
  refine ⟨by simp [h.1, k.1]; omega, fun i hi => ?_⟩
  by_cases hlt : i < ts.length
  · obtain ⟨s, h1, h2, h3⟩ := h.2 i hlt
    have e : (ts ++ us)[i] = ts[i] := List.getElem_append_left hlt
    rw [e]
    exact ⟨s, by rw [List.getElem?_append_left (by rw [h.1]; omega)]; exact h1, by rw [List.getElem?_append_left (by rw [h.1]; omega)]; exact h2, h3⟩
  · have hi' : i - ts.length < us.length := by simp at hi; omega
    obtain ⟨s, h1, h2, h3⟩ := k.2 (i - ts.length) hi'
    have e : (ts ++ us)[i] = us[i - ts.length] := List.getElem_append_right (by omega)
    rw [e]
    refine ⟨s, ?_, ?_, h3⟩
    · rw [List.getElem?_append_right (by rw [h.1]; omega), h.1, ← h1]; congr 1; omega
    · rw [List.getElem?_append_right (by rw [h.1]; omega), h.1, ← h2]; congr 1; omega
theorem RowT.one {I : Imm} {t : T} {a : Option Addr} {c : Nat} (h : RepT I (.agg #[.int .i64 t.head, .slice a t.args.length c]) t) : RowT I [.int .i64 t.head, .slice a t.args.length c] [t] :=
  ⟨rfl, fun i hi => by
    have : i = 0 := by simp at hi; omega
    subst this
    exact ⟨(a, c), rfl, rfl, h⟩⟩
theorem RowT.rep {I : Imm} {ad : Option Addr} {c : Nat} {xs : List Value} {ts : List T} {h : Int} (hc : Cells I ad xs) (hr : RowT I xs ts) (hh : InR h) (hle : ts.length ≤ c) (hb : ts.length ≤ 4398046511104) : RepT I (.agg #[.int .i64 h, .slice ad ts.length c]) (.mk h ts) := by
  have hex : ∃ ss : Nat → Option Addr × Nat, ∀ i (h : i < ts.length), xs[i * 2]? = some (.int .i64 ts[i].head) ∧ xs[i * 2 + 1]? = some (.slice (ss i).1 ts[i].args.length (ss i).2) ∧ RepT I (.agg #[.int .i64 ts[i].head, .slice (ss i).1 ts[i].args.length (ss i).2]) ts[i] := by
    classical
    exact ⟨fun i => if h : i < ts.length then (hr.2 i h).choose else (none, 0), fun i hi => by simp only [dif_pos hi]; exact (hr.2 i hi).choose_spec⟩
  obtain ⟨ss, hss⟩ := hex
  refine RepT.intro ss hh hle hb (fun i hi => hc.at _ fun j v hj => ?_) (fun i hi => (hss i hi).2.2)
  rcases j with _ | _ | j
  · simp at hj; subst hj; exact (hss i hi).1
  · simp at hj; subst hj; exact (hss i hi).2.1
  · simp at hj
/-- the cells of a term's arguments, as they lie -/
def rowsT : List T → (Nat → Option Addr × Nat) → List Value
  | [], _ => []
  | t :: ts, ss => .int .i64 t.head :: .slice (ss 0).1 t.args.length (ss 0).2 :: rowsT ts fun i => ss (i + 1)
theorem rowsT_length : ∀ (ts : List T) (ss : Nat → Option Addr × Nat), (rowsT ts ss).length = ts.length * 2
  | [], _ => rfl
  | t :: ts, ss => by simp [rowsT, rowsT_length ts]; omega
theorem rowsT_at : ∀ (ts : List T) (ss : Nat → Option Addr × Nat) (i : Nat) (h : i < ts.length), (rowsT ts ss)[i * 2]? = some (.int .i64 ts[i].head) ∧ (rowsT ts ss)[i * 2 + 1]? = some (.slice (ss i).1 ts[i].args.length (ss i).2)
  | [], _, i, h => by simp at h
  | t :: ts, ss, 0, _ => ⟨rfl, rfl⟩
  | t :: ts, ss, i + 1, h => by
    have := rowsT_at ts (fun i => ss (i + 1)) i (by simpa using h)
    have e1 : (i + 1) * 2 = i * 2 + 1 + 1 := by omega
    simpa [rowsT, e1] using this
theorem RowT.of {I : Imm} {ad : Option Addr} {ss : Nat → Option Addr × Nat} {ts : List T} (hat : ∀ i (h : i < ts.length), At I ad (i * 2) [.int .i64 ts[i].head, .slice (ss i).1 ts[i].args.length (ss i).2]) (hsub : ∀ i (h : i < ts.length), RepT I (.agg #[.int .i64 ts[i].head, .slice (ss i).1 ts[i].args.length (ss i).2]) ts[i]) :
    Cells I ad (rowsT ts ss) ∧ RowT I (rowsT ts ss) ts := by
  refine ⟨fun j v hj => ?_, rowsT_length ts ss, fun i hi => ⟨ss i, (rowsT_at ts ss i hi).1, (rowsT_at ts ss i hi).2, hsub i hi⟩⟩
  have hlt : j < ts.length * 2 := by rw [← rowsT_length ts ss]; exact (List.getElem?_eq_some_iff.1 hj).1
  have hi : j / 2 < ts.length := by omega
  have h1 := rowsT_at ts ss (j / 2) hi
  have h2 := hat (j / 2) hi
  rcases Nat.mod_two_eq_zero_or_one j with e | e
  · have ej : j / 2 * 2 = j := by omega
    rw [ej] at h1
    rw [h1.1] at hj
    have := h2 0 v (by simpa using hj)
    rwa [Nat.add_zero, ej] at this
  · have ej : j / 2 * 2 + 1 = j := by omega
    rw [ej] at h1
    rw [h1.2] at hj
    have := h2 1 v (by simpa using hj)
    rwa [ej] at this
theorem rowsT_one : ∀ (ts : List T) (ss : Nat → Option Addr × Nat), ∀ u ∈ rowsT ts ss, u.oneCell' = true
  | [], _, u, hu => by simp [rowsT] at hu
  | t :: ts, ss, u, hu => by
    simp only [rowsT, List.mem_cons] at hu
    rcases hu with rfl | rfl | hu
    · rfl
    · rfl
    · exact rowsT_one ts _ u hu
theorem RepT.open {I : Imm} {h : Int} {ad : Option Addr} {n c : Nat} {t : T} (hv : RepT I (.agg #[.int .i64 h, .slice ad n c]) t) :
    h = t.head ∧ n = t.args.length ∧ InR t.head ∧ t.args.length ≤ c ∧ t.args.length ≤ 4398046511104 ∧ ∃ ss : Nat → Option Addr × Nat, (∀ i (h : i < t.args.length), At I ad (i * 2) [.int .i64 t.args[i].head, .slice (ss i).1 t.args[i].args.length (ss i).2]) ∧
      (∀ i (h : i < t.args.length), RepT I (.agg #[.int .i64 t.args[i].head, .slice (ss i).1 t.args[i].args.length (ss i).2]) t.args[i]) := by
  obtain ⟨h', ts⟩ := t
  obtain ⟨ad', c', ss, he, hr, hc, hb, hat, hsub⟩ := hv.elim
  simp at he
  obtain ⟨rfl, rfl, rfl, rfl⟩ := he
  exact ⟨rfl, rfl, hr, hc, hb, ss, hat, hsub⟩
theorem RepT.shape {I : Imm} {v : Value} {t : T} (h : RepT I v t) : ∃ ad c, v = .agg #[.int .i64 t.head, .slice ad t.args.length c] ∧ InR t.head := by
  obtain ⟨s, t, hr, hs⟩ := h
  obtain ⟨ad, c, ss, ts, hc, hb, hat, hrs, hsub⟩ := hs
  exact ⟨ad, c, rfl, hr⟩
theorem RepS.oneCell {I : Imm} {s : Value} {ts : List T} (h : RepS I s ts) : s.oneCell' = true := by
  obtain ⟨ad, c, ss, ts, _, _, _, _, _⟩ := h
  rfl
theorem RepT.args {I : Imm} {s : Value} {t : T} {h : Int} (hv : RepT I (.agg #[.int .i64 h, s]) t) : RepS I s t.args := by
  generalize e : Value.agg #[.int .i64 h, s] = v at hv
  obtain ⟨s', t, hr, hs⟩ := hv
  have e' : h = t.head ∧ s = s' := by simpa using e
  rw [e'.2]; exact hs

theorem RInts.tail {I : Imm} {ad : Option Addr} {c : Nat} {x : Int} {r : List Int} (hc : (x :: r).length ≤ c) (hb : (x :: r).length ≤ 17592186044416) (hat : Cells I ad ((x :: r).map (Value.int .i64))) (hr : ∀ y ∈ x :: r, InR y) :
    RInts I (.slice (cutAt ad c 1 1) r.length (c - 1)) r := by
  refine ⟨_, _, r, by simp at hc; omega, by simp at hb; omega, fun j v hj => ?_, fun y hy => hr y (List.mem_cons_of_mem _ hy)⟩
  have hlt : j < r.length := by simpa using (List.getElem?_eq_some_iff.1 hj).1
  have h1 : At I ad (1 * 1 + j) [v] := hat.at _ fun i u hi => by
    rcases i with _ | i
    · simp at hi; subst hi; rw [show 1 * 1 + j + 0 = j + 1 by omega]; simpa using hj
    · simp at hi
  have := h1.cut (c := c) (by simp at hc; omega) 0 v rfl
  simpa using this
theorem RInts.take {I : Imm} {ad : Option Addr} {c h : Nat} {xs : List Int} (hc : xs.length ≤ c) (hb : xs.length ≤ 17592186044416) (hat : Cells I ad (xs.map (Value.int .i64))) (hr : ∀ y ∈ xs, InR y) (hh : h ≤ xs.length) :
    RInts I (.slice ad h c) (xs.take h) := by
  have e : (xs.take h).length = h := by rw [List.length_take]; omega
  have := RInts.mk (I := I) ad c (xs.take h) (by omega) (by omega) (fun j v hj => hat j v (by
    rw [List.map_take] at hj
    rw [List.getElem?_take] at hj
    split at hj
    · exact hj
    · cases hj)) (fun y hy => hr y (List.mem_of_mem_take hy))
  rwa [e] at this
def underL (p q : List Int) : Bool := decide (p.length ≤ q.length ∧ p = q.take p.length)
def zeroT : T := .mk 0 []
theorem zeroT_rep (I : Imm) : RepT I (.agg #[.int .i64 0, .slice none 0 0]) zeroT := RepT.mk _ (.mk 0 []) (by unfold InR; simp [T.head]) (RepS.nil I)

theorem bool_t {p : Prop} [Decidable p] (h : p) : outV [.bool true] = .bool (decide p) := by simp [outV, h]
theorem bool_f {p : Prop} [Decidable p] (h : ¬ p) : outV [.bool false] = .bool (decide p) := by simp [outV, h]
theorem bool_b {a b : Bool} (h : a = b) : outV [.bool a] = .bool b := by simp [outV, h]
end Go.Proofs.Ythbcdffldcdfoaa
