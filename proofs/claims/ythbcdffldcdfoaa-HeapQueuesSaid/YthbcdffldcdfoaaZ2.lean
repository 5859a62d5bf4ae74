/- Own texts, one behind the other: rules of a small program logic, walks through the program's functions, plain facts. No condition. -/
import Derived.Test.YthbcdffldcdfoaaZ1
import Derived.Test.YthbcdffldcdfoaaProg
/- How rows of numbers and terms lie in memory. Plain definitions; no condition. -/
namespace Go.Proofs.Ythbcdffldcdfoaa
open Go Lg

def InR (n : Int) : Prop := -9223372036854775808 ≤ n ∧ n ≤ 9223372036854775807

/-- a row of numbers that is only read -/
inductive RInts (I : Imm) : Value → List Int → Prop
  | mk (ad : Option Addr) (c : Nat) (xs : List Int) (hc : xs.length ≤ c) (hb : xs.length ≤ 17592186044416) (hat : Cells I ad (xs.map (Value.int .i64))) (hr : ∀ x ∈ xs, InR x) : RInts I (.slice ad xs.length c) xs

theorem RInts.mono {I J : Imm} {v : Value} {xs : List Int} (h : RInts I v xs) (hl : I.le J) : RInts J v xs := by
  obtain ⟨ad, c, xs, hc, hb, hat, hr⟩ := h
  exact ⟨ad, c, xs, hc, hb, hat.mono hl, hr⟩
theorem RInts.nil (I : Imm) : RInts I (.slice none 0 0) [] := ⟨none, 0, [], Nat.le_refl _, by simp, fun j v hj => by simp at hj, fun x hx => by cases hx⟩

theorem ints_at {I : Imm} {ad : Option Addr} {xs : List Int} (h : Cells I ad (xs.map (Value.int .i64))) (i : Nat) (hi : i < xs.length) : At I ad (i * 1) [.int .i64 xs[i]] :=
  h.at _ fun j v hj => by
    rcases j with _ | j
    · simp at hj; subst hj; simp [hi]
    · simp at hj
theorem ints_some {I : Imm} {ad : Option Addr} {xs : List Int} (h : Cells I ad (xs.map (Value.int .i64))) (i : Nat) (hi : i < xs.length) : ad.isSome = true := (ints_at h i hi).isSome

/-- a term -/
inductive T where
  | mk (head : Int) (args : List T)
def T.head : T → Int | .mk h _ => h
def T.args : T → List T | .mk _ a => a

inductive RepS (I : Imm) : Value → List T → Prop
  | mk (ad : Option Addr) (c : Nat) (ss : Nat → Option Addr × Nat) (ts : List T) (hc : ts.length ≤ c) (hb : ts.length ≤ 4398046511104)
      (hat : ∀ i (h : i < ts.length), At I ad (i * 2) [.int .i64 ts[i].head, .slice (ss i).1 ts[i].args.length (ss i).2]) (hr : ∀ i (h : i < ts.length), InR ts[i].head)
      (sub : ∀ i (h : i < ts.length), RepS I (.slice (ss i).1 ts[i].args.length (ss i).2) ts[i].args) : RepS I (.slice ad ts.length c) ts
theorem RepS.mono {I J : Imm} {v : Value} {ts : List T} (h : RepS I v ts) (hl : I.le J) : RepS J v ts := by
  induction h with
  | mk ad c ss ts hc hb hat hr _ ih => exact ⟨ad, c, ss, ts, hc, hb, fun i h => (hat i h).mono hl, hr, ih⟩
theorem RepS.nil (I : Imm) : RepS I (.slice none 0 0) [] := ⟨none, 0, fun _ => (none, 0), [], Nat.le_refl _, by simp, fun i h => by simp at h, fun i h => by simp at h, fun i h => by simp at h⟩

/-- a term as a value -/
inductive RepT (I : Imm) : Value → T → Prop
  | mk (s : Value) (t : T) (hr : InR t.head) (hs : RepS I s t.args) : RepT I (.agg #[.int .i64 t.head, s]) t
theorem RepT.mono {I J : Imm} {v : Value} {t : T} (h : RepT I v t) (hl : I.le J) : RepT J v t := by
  obtain ⟨s, t, hr, hs⟩ := h
  exact ⟨s, t, hr, hs.mono hl⟩
theorem RepT.elim {I : Imm} {v : Value} {h : Int} {ts : List T} (hv : RepT I v (.mk h ts)) :
    ∃ (ad : Option Addr) (c : Nat) (ss : Nat → Option Addr × Nat), v = .agg #[.int .i64 h, .slice ad ts.length c] ∧ InR h ∧ ts.length ≤ c ∧ ts.length ≤ 4398046511104 ∧ (∀ i (h : i < ts.length), At I ad (i * 2) [.int .i64 ts[i].head, .slice (ss i).1 ts[i].args.length (ss i).2]) ∧
      (∀ i (h : i < ts.length), RepT I (.agg #[.int .i64 ts[i].head, .slice (ss i).1 ts[i].args.length (ss i).2]) ts[i]) := by
  obtain ⟨s, t, hr, hs⟩ := hv
  obtain ⟨ad, c, ss, ts, hc, hb, hat, hrs, hsub⟩ := hs
  exact ⟨ad, c, ss, rfl, hr, hc, hb, hat, fun i hi => RepT.mk _ _ (hrs i hi) (hsub i hi)⟩
theorem RepT.intro {I : Imm} {h : Int} {ad : Option Addr} {c : Nat} {ts : List T} (ss : Nat → Option Addr × Nat) (hr : InR h) (hc : ts.length ≤ c) (hb : ts.length ≤ 4398046511104) (hat : ∀ i (h : i < ts.length), At I ad (i * 2) [.int .i64 ts[i].head, .slice (ss i).1 ts[i].args.length (ss i).2])
    (hsub : ∀ i (h : i < ts.length), RepT I (.agg #[.int .i64 ts[i].head, .slice (ss i).1 ts[i].args.length (ss i).2]) ts[i]) : RepT I (.agg #[.int .i64 h, .slice ad ts.length c]) (.mk h ts) := by
  have key : ∀ (v : Value) (t : T) (s : Value), RepT I v t → v = .agg #[.int .i64 t.head, s] → InR t.head ∧ RepS I s t.args := fun v t s hv e => by
    obtain ⟨s', t, hr, hs⟩ := hv
    have e' : s' = s := by simpa using e
    subst e'
    exact ⟨hr, hs⟩
  exact RepT.mk _ (.mk h ts) hr ⟨ad, c, ss, ts, hc, hb, hat, fun i hi => (key _ _ _ (hsub i hi) rfl).1, fun i hi => (key _ _ _ (hsub i hi) rfl).2⟩


/-- cells of terms, one behind the other -/
def RowT (I : Imm) (xs : List Value) (ts : List T) : Prop :=
  xs.length = ts.length * 2 ∧ ∀ i (h : i < ts.length), ∃ s : Option Addr × Nat, xs[i * 2]? = some (.int .i64 ts[i].head) ∧ xs[i * 2 + 1]? = some (.slice s.1 ts[i].args.length s.2) ∧ RepT I (.agg #[.int .i64 ts[i].head, .slice s.1 ts[i].args.length s.2]) ts[i]
theorem RowT.nil (I : Imm) : RowT I [] [] := ⟨rfl, fun i h => by simp at h⟩
theorem RowT.mono {I J : Imm} {xs : List Value} {ts : List T} (h : RowT I xs ts) (hl : I.le J) : RowT J xs ts :=
  ⟨h.1, fun i hi => let ⟨s, h1, h2, h3⟩ := h.2 i hi; ⟨s, h1, h2, h3.mono hl⟩⟩
theorem RowT.app {I : Imm} {xs ys : List Value} {ts us : List T} (h : RowT I xs ts) (k : RowT I ys us) : RowT I (xs ++ ys) (ts ++ us) := by
  refine ⟨by simp [h.1, k.1]; omega, fun i hi => ?_⟩
  by_cases hlt : i < ts.length
  · obtain ⟨s, h1, h2, h3⟩ := h.2 i hlt
    have e : (ts ++ us)[i] = ts[i] := List.getElem_append_left hlt
    rw [e]
    exact ⟨s, by rw [List.getElem?_append_left (by rw [h.1]; omega)]; exact h1, by rw [List.getElem?_append_left (by rw [h.1]; omega)]; exact h2, h3⟩
  · have hi' : i - ts.length < us.length := by simp at hi; omega
    obtain ⟨s, h1, h2, h3⟩ := k.2 (i - ts.length) hi'
    have e : (ts ++ us)[i] = us[i - ts.length] := List.getElem_append_right (by omega)
    rw [e]
    refine ⟨s, ?_, ?_, h3⟩
    · rw [List.getElem?_append_right (by rw [h.1]; omega), h.1, ← h1]; congr 1; omega
    · rw [List.getElem?_append_right (by rw [h.1]; omega), h.1, ← h2]; congr 1; omega
theorem RowT.one {I : Imm} {t : T} {a : Option Addr} {c : Nat} (h : RepT I (.agg #[.int .i64 t.head, .slice a t.args.length c]) t) : RowT I [.int .i64 t.head, .slice a t.args.length c] [t] :=
  ⟨rfl, fun i hi => by
    have : i = 0 := by simp at hi; omega
    subst this
    exact ⟨(a, c), rfl, rfl, h⟩⟩
theorem RowT.rep {I : Imm} {ad : Option Addr} {c : Nat} {xs : List Value} {ts : List T} {h : Int} (hc : Cells I ad xs) (hr : RowT I xs ts) (hh : InR h) (hle : ts.length ≤ c) (hb : ts.length ≤ 4398046511104) : RepT I (.agg #[.int .i64 h, .slice ad ts.length c]) (.mk h ts) := by
  have hex : ∃ ss : Nat → Option Addr × Nat, ∀ i (h : i < ts.length), xs[i * 2]? = some (.int .i64 ts[i].head) ∧ xs[i * 2 + 1]? = some (.slice (ss i).1 ts[i].args.length (ss i).2) ∧ RepT I (.agg #[.int .i64 ts[i].head, .slice (ss i).1 ts[i].args.length (ss i).2]) ts[i] := by
    classical
    exact ⟨fun i => if h : i < ts.length then (hr.2 i h).choose else (none, 0), fun i hi => by simp only [dif_pos hi]; exact (hr.2 i hi).choose_spec⟩
  obtain ⟨ss, hss⟩ := hex
  refine RepT.intro ss hh hle hb (fun i hi => hc.at _ fun j v hj => ?_) (fun i hi => (hss i hi).2.2)
  rcases j with _ | _ | j
  · simp at hj; subst hj; exact (hss i hi).1
  · simp at hj; subst hj; exact (hss i hi).2.1
  · simp at hj
/-- the cells of a term's arguments, as they lie -/
def rowsT : List T → (Nat → Option Addr × Nat) → List Value
  | [], _ => []
  | t :: ts, ss => .int .i64 t.head :: .slice (ss 0).1 t.args.length (ss 0).2 :: rowsT ts fun i => ss (i + 1)
theorem rowsT_length : ∀ (ts : List T) (ss : Nat → Option Addr × Nat), (rowsT ts ss).length = ts.length * 2
  | [], _ => rfl
  | t :: ts, ss => by simp [rowsT, rowsT_length ts]; omega
theorem rowsT_at : ∀ (ts : List T) (ss : Nat → Option Addr × Nat) (i : Nat) (h : i < ts.length), (rowsT ts ss)[i * 2]? = some (.int .i64 ts[i].head) ∧ (rowsT ts ss)[i * 2 + 1]? = some (.slice (ss i).1 ts[i].args.length (ss i).2)
  | [], _, i, h => by simp at h
  | t :: ts, ss, 0, _ => ⟨rfl, rfl⟩
  | t :: ts, ss, i + 1, h => by
    have := rowsT_at ts (fun i => ss (i + 1)) i (by simpa using h)
    have e1 : (i + 1) * 2 = i * 2 + 1 + 1 := by omega
    simpa [rowsT, e1] using this
theorem RowT.of {I : Imm} {ad : Option Addr} {ss : Nat → Option Addr × Nat} {ts : List T} (hat : ∀ i (h : i < ts.length), At I ad (i * 2) [.int .i64 ts[i].head, .slice (ss i).1 ts[i].args.length (ss i).2]) (hsub : ∀ i (h : i < ts.length), RepT I (.agg #[.int .i64 ts[i].head, .slice (ss i).1 ts[i].args.length (ss i).2]) ts[i]) :
    Cells I ad (rowsT ts ss) ∧ RowT I (rowsT ts ss) ts := by
  refine ⟨fun j v hj => ?_, rowsT_length ts ss, fun i hi => ⟨ss i, (rowsT_at ts ss i hi).1, (rowsT_at ts ss i hi).2, hsub i hi⟩⟩
  have hlt : j < ts.length * 2 := by rw [← rowsT_length ts ss]; exact (List.getElem?_eq_some_iff.1 hj).1
  have hi : j / 2 < ts.length := by omega
  have h1 := rowsT_at ts ss (j / 2) hi
  have h2 := hat (j / 2) hi
  rcases Nat.mod_two_eq_zero_or_one j with e | e
  · have ej : j / 2 * 2 = j := by omega
    rw [ej] at h1
    rw [h1.1] at hj
    have := h2 0 v (by simpa using hj)
    rwa [Nat.add_zero, ej] at this
  · have ej : j / 2 * 2 + 1 = j := by omega
    rw [ej] at h1
    rw [h1.2] at hj
    have := h2 1 v (by simpa using hj)
    rwa [ej] at this
theorem rowsT_one : ∀ (ts : List T) (ss : Nat → Option Addr × Nat), ∀ u ∈ rowsT ts ss, u.oneCell' = true
  | [], _, u, hu => by simp [rowsT] at hu
  | t :: ts, ss, u, hu => by
    simp only [rowsT, List.mem_cons] at hu
    rcases hu with rfl | rfl | hu
    · rfl
    · rfl
    · exact rowsT_one ts _ u hu
theorem RepT.open {I : Imm} {h : Int} {ad : Option Addr} {n c : Nat} {t : T} (hv : RepT I (.agg #[.int .i64 h, .slice ad n c]) t) :
    h = t.head ∧ n = t.args.length ∧ InR t.head ∧ t.args.length ≤ c ∧ t.args.length ≤ 4398046511104 ∧ ∃ ss : Nat → Option Addr × Nat, (∀ i (h : i < t.args.length), At I ad (i * 2) [.int .i64 t.args[i].head, .slice (ss i).1 t.args[i].args.length (ss i).2]) ∧
      (∀ i (h : i < t.args.length), RepT I (.agg #[.int .i64 t.args[i].head, .slice (ss i).1 t.args[i].args.length (ss i).2]) t.args[i]) := by
  obtain ⟨h', ts⟩ := t
  obtain ⟨ad', c', ss, he, hr, hc, hb, hat, hsub⟩ := hv.elim
  simp at he
  obtain ⟨rfl, rfl, rfl, rfl⟩ := he
  exact ⟨rfl, rfl, hr, hc, hb, ss, hat, hsub⟩
theorem RepT.shape {I : Imm} {v : Value} {t : T} (h : RepT I v t) : ∃ ad c, v = .agg #[.int .i64 t.head, .slice ad t.args.length c] ∧ InR t.head := by
  obtain ⟨s, t, hr, hs⟩ := h
  obtain ⟨ad, c, ss, ts, hc, hb, hat, hrs, hsub⟩ := hs
  exact ⟨ad, c, rfl, hr⟩
theorem RepS.oneCell {I : Imm} {s : Value} {ts : List T} (h : RepS I s ts) : s.oneCell' = true := by
  obtain ⟨ad, c, ss, ts, _, _, _, _, _⟩ := h
  rfl
theorem RepT.args {I : Imm} {s : Value} {t : T} {h : Int} (hv : RepT I (.agg #[.int .i64 h, s]) t) : RepS I s t.args := by
  generalize e : Value.agg #[.int .i64 h, s] = v at hv
  obtain ⟨s', t, hr, hs⟩ := hv
  have e' : h = t.head ∧ s = s' := by simpa using e
  rw [e'.2]; exact hs

theorem RInts.tail {I : Imm} {ad : Option Addr} {c : Nat} {x : Int} {r : List Int} (hc : (x :: r).length ≤ c) (hb : (x :: r).length ≤ 17592186044416) (hat : Cells I ad ((x :: r).map (Value.int .i64))) (hr : ∀ y ∈ x :: r, InR y) :
    RInts I (.slice (cutAt ad c 1 1) r.length (c - 1)) r := by
  refine ⟨_, _, r, by simp at hc; omega, by simp at hb; omega, fun j v hj => ?_, fun y hy => hr y (List.mem_cons_of_mem _ hy)⟩
  have hlt : j < r.length := by simpa using (List.getElem?_eq_some_iff.1 hj).1
  have h1 : At I ad (1 * 1 + j) [v] := hat.at _ fun i u hi => by
    rcases i with _ | i
    · simp at hi; subst hi; rw [show 1 * 1 + j + 0 = j + 1 by omega]; simpa using hj
    · simp at hi
  have := h1.cut (c := c) (by simp at hc; omega) 0 v rfl
  simpa using this
theorem RInts.take {I : Imm} {ad : Option Addr} {c h : Nat} {xs : List Int} (hc : xs.length ≤ c) (hb : xs.length ≤ 17592186044416) (hat : Cells I ad (xs.map (Value.int .i64))) (hr : ∀ y ∈ xs, InR y) (hh : h ≤ xs.length) :
    RInts I (.slice ad h c) (xs.take h) := by
  have e : (xs.take h).length = h := by rw [List.length_take]; omega
  have := RInts.mk (I := I) ad c (xs.take h) (by omega) (by omega) (fun j v hj => hat j v (by
    rw [List.map_take] at hj
    rw [List.getElem?_take] at hj
    split at hj
    · exact hj
    · cases hj)) (fun y hy => hr y (List.mem_of_mem_take hy))
  rwa [e] at this
def underL (p q : List Int) : Bool := decide (p.length ≤ q.length ∧ p = q.take p.length)
def zeroT : T := .mk 0 []
theorem zeroT_rep (I : Imm) : RepT I (.agg #[.int .i64 0, .slice none 0 0]) zeroT := RepT.mk _ (.mk 0 []) (by unfold InR; simp [T.head]) (RepS.nil I)

theorem bool_t {p : Prop} [Decidable p] (h : p) : outV [.bool true] = .bool (decide p) := by simp [outV, h]
theorem bool_f {p : Prop} [Decidable p] (h : ¬ p) : outV [.bool false] = .bool (decide p) := by simp [outV, h]
theorem bool_b {a b : Bool} (h : a = b) : outV [.bool a] = .bool b := by simp [outV, h]
end Go.Proofs.Ythbcdffldcdfoaa
/- Plain facts on terms. No condition. -/
set_option linter.unusedVariables false
set_option linter.unusedSimpArgs false
namespace Go.Proofs.Ythbcdffldcdfoaa

mutual
def T.size : T → Nat
  | .mk _ ars => 1 + sizeL ars
def sizeL : List T → Nat
  | [] => 0
  | t :: r => t.size + sizeL r
end
theorem T.size_pos (t : T) : 1 ≤ t.size := by cases t; simp [T.size]
theorem sizeL_drop (ars : List T) (k : Nat) (h : k < ars.length) : sizeL (ars.drop k) = ars[k].size + sizeL (ars.drop (k + 1)) := by
  rw [List.drop_eq_getElem_cons h]; simp [sizeL]
theorem sizeL_mem : ∀ (ars : List T) (k : Nat) (h : k < ars.length), ars[k].size ≤ sizeL ars
  | t :: r, 0, _ => by simp [sizeL]
  | t :: r, k + 1, h => by
    have := sizeL_mem r k (by simpa using h)
    simp [sizeL]; omega
theorem sizeL_len : ∀ (ars : List T), ars.length ≤ sizeL ars
  | [] => by simp [sizeL]
  | t :: r => by have := sizeL_len r; have := t.size_pos; simp [sizeL]; omega

def ordI (a b : Int) : Int := if a < b then -1 else if a > b then 1 else 0
mutual
def cmpT : T → T → Int
  | .mk h ars, .mk g bs =>
    if 1 + sizeL ars ≠ 1 + sizeL bs then ordI (1 + sizeL ars : Nat) (1 + sizeL bs : Nat)
    else if h ≠ g then ordI h g
    else if ars.length ≠ bs.length then ordI ars.length bs.length
    else cmpL ars bs
def cmpL : List T → List T → Int
  | a :: ars, b :: bs => if cmpT a b ≠ 0 then cmpT a b else cmpL ars bs
  | _, _ => 0
end
theorem ordI_range (a b : Int) : -1 ≤ ordI a b ∧ ordI a b ≤ 1 := by
  unfold ordI
  split
  · omega
  · split <;> omega
mutual
theorem cmpT_range : ∀ (a b : T), -1 ≤ cmpT a b ∧ cmpT a b ≤ 1
  | .mk h ars, .mk g bs => by
    unfold cmpT
    split
    · exact ordI_range _ _
    · split
      · exact ordI_range _ _
      · split
        · exact ordI_range _ _
        · exact cmpL_range ars bs
theorem cmpL_range : ∀ (a b : List T), -1 ≤ cmpL a b ∧ cmpL a b ≤ 1
  | [], _ => by simp [cmpL]
  | _ :: _, [] => by simp [cmpL]
  | a :: ars, b :: bs => by
    unfold cmpL
    split
    · exact cmpT_range a b
    · exact cmpL_range ars bs
end
theorem ordI_zero {a b : Int} (h : ordI a b = 0) : a = b := by
  unfold ordI at h
  split at h
  · omega
  · split at h <;> omega
mutual
theorem cmpT_zero : ∀ (a b : T), cmpT a b = 0 → a = b
  | .mk h ars, .mk g bs, e => by
    unfold cmpT at e
    split at e
    · have := ordI_zero e; omega
    · split at e
      · exact absurd (ordI_zero e) (by assumption)
      · split at e
        · have := ordI_zero e; omega
        · rename_i h1 h2 h3
          have h2' : h = g := by omega
          have h3' : ars.length = bs.length := by omega
          rw [h2', cmpL_zero ars bs h3' e]
theorem cmpL_zero : ∀ (a b : List T), a.length = b.length → cmpL a b = 0 → a = b
  | [], [], _, _ => rfl
  | [], _ :: _, h, _ => by simp at h
  | _ :: _, [], h, _ => by simp at h
  | a :: ars, b :: bs, h, e => by
    unfold cmpL at e
    split at e
    · rename_i hne; exact absurd e hne
    · rename_i h0
      have h0' : cmpT a b = 0 := by omega
      rw [cmpT_zero a b h0', cmpL_zero ars bs (by simpa using h) e]
end
mutual
theorem cmpT_self : ∀ (a : T), cmpT a a = 0
  | .mk h ars => by simp [cmpT, cmpL_self ars]
theorem cmpL_self : ∀ (a : List T), cmpL a a = 0
  | [] => by simp [cmpL]
  | a :: ars => by simp [cmpL, cmpT_self a, cmpL_self ars]
end
theorem cmpT_eq (a b : T) : cmpT a b = 0 ↔ a = b := ⟨cmpT_zero a b, fun h => by subst h; exact cmpT_self a⟩
theorem cmpL_drop (ars bs : List T) (k : Nat) (h : k < ars.length) (h' : k < bs.length) :
    cmpL (ars.drop k) (bs.drop k) = if cmpT ars[k] bs[k] ≠ 0 then cmpT ars[k] bs[k] else cmpL (ars.drop (k + 1)) (bs.drop (k + 1)) := by
  rw [List.drop_eq_getElem_cons h, List.drop_eq_getElem_cons h', cmpL]
/-- the part at a place -/
def atT : T → List Int → Option T
  | t, [] => some t
  | t, x :: r => if h : 0 ≤ x ∧ x.toNat < t.args.length then atT (t.args[x.toNat]'h.2) r else none
instance : DecidableEq T := fun a b => if h : cmpT a b = 0 then .isTrue ((cmpT_eq a b).1 h) else .isFalse fun e => h ((cmpT_eq a b).2 e)
end Go.Proofs.Ythbcdffldcdfoaa
/- Plain facts on the parts of a term, with their depths. No condition. -/
set_option linter.unusedVariables false
set_option linter.unusedSimpArgs false
namespace Go.Proofs.Ythbcdffldcdfoaa
open Go Lg

mutual
def partsT : Nat → T → List (Nat × T)
  | d, .mk h ts => (d, .mk h ts) :: partsL (d + 1) ts
def partsL : Nat → List T → List (Nat × T)
  | _, [] => []
  | d, t :: r => partsT d t ++ partsL d r
end
mutual
theorem partsT_length : ∀ (d : Nat) (t : T), (partsT d t).length = t.size
  | d, .mk h ts => by simp [partsT, T.size, partsL_length (d + 1) ts]; omega
theorem partsL_length : ∀ (d : Nat) (ts : List T), (partsL d ts).length = sizeL ts
  | _, [] => rfl
  | d, t :: r => by simp [partsL, sizeL, partsT_length d t, partsL_length d r]
end
mutual
theorem partsT_deep : ∀ (d : Nat) (t : T) (x : Nat × T), x ∈ partsT d t → x.1 + x.2.size ≤ d + t.size
  | d, .mk h ts, x, hx => by
    simp only [partsT, List.mem_cons] at hx
    rcases hx with rfl | hx
    · simp
    · have := partsL_deep (d + 1) ts x hx; simp [T.size]; omega
theorem partsL_deep : ∀ (d : Nat) (ts : List T) (x : Nat × T), x ∈ partsL d ts → x.1 + x.2.size ≤ d + sizeL ts
  | _, [], x, hx => by simp [partsL] at hx
  | d, t :: r, x, hx => by
    simp only [partsL, List.mem_append] at hx
    rcases hx with hx | hx
    · have := partsT_deep d t x hx; simp [sizeL]; omega
    · have := partsL_deep d r x hx; simp [sizeL]; omega
end
/-- what a stack of terms still has to tell -/
def partsS (st : List (Nat × T)) : List (Nat × T) := st.reverse.flatMap fun x => partsT x.1 x.2
theorem partsS_snoc (st : List (Nat × T)) (x : Nat × T) : partsS (st ++ [x]) = partsT x.1 x.2 ++ partsS st := by simp [partsS]
theorem partsS_app (st us : List (Nat × T)) : partsS (st ++ us) = partsS us ++ partsS st := by simp [partsS]
theorem partsL_eq : ∀ (d : Nat) (ts : List T), partsL d ts = (ts.map fun t => (d, t)).flatMap fun x => partsT x.1 x.2
  | _, [] => rfl
  | d, t :: r => by simp [partsL, partsL_eq d r]
/-- the arguments, the last one first -/
def kids (d : Nat) (ts : List T) (l : List Nat) : List (Nat × T) := l.map fun i => (d, ts.getD i zeroT)
theorem map_range_getD (ts : List T) : (List.range ts.length).map (fun i => ts.getD i zeroT) = ts := by
  apply List.ext_getElem
  · simp
  · intro i h1 h2; simp at h1; simp [h1]
theorem partsS_kids (d : Nat) (ts : List T) : partsS (kids d ts (List.range ts.length).reverse) = partsL d ts := by
  rw [partsL_eq, partsS, kids, ← List.map_reverse, List.reverse_reverse]
  congr 1
  have : (fun i => (d, ts.getD i zeroT)) = (fun t => (d, t)) ∘ (fun i => ts.getD i zeroT) := rfl
  rw [this, ← List.map_map, map_range_getD]
theorem partsS_len (st : List (Nat × T)) : st.length ≤ (partsS st).length := by
  have key : ∀ l : List (Nat × T), l.length ≤ (l.flatMap fun x => partsT x.1 x.2).length := fun l => by
    induction l with
    | nil => simp
    | cons x r ih => have := x.2.size_pos; simp [partsT_length] at ih ⊢; omega
  have := key st.reverse
  simpa [partsS] using this
theorem range_rev (n k : Nat) (h : k < n) : (List.range n).reverse = (List.range n).reverse.take k ++ (n - 1 - k) :: (List.range n).reverse.drop (k + 1) := by
  have hl : k < (List.range n).reverse.length := by simpa using h
  have hk : (List.range n).reverse[k] = n - 1 - k := by simp [List.getElem_reverse]
  rw [← hk]
  have h1 := List.take_append_drop k (List.range n).reverse
  rw [List.drop_eq_getElem_cons hl] at h1
  exact h1.symm
theorem range_rev_take (n k : Nat) (h : k < n) : (List.range n).reverse.take (k + 1) = (List.range n).reverse.take k ++ [n - 1 - k] := by
  have hl : k < (List.range n).reverse.length := by simpa using h
  have hk : (List.range n).reverse[k] = n - 1 - k := by simp [List.getElem_reverse]
  rw [List.take_succ_eq_append_getElem hl, hk]

/-- cells of terms with their depths, one behind the other -/
def RowK (I : Imm) (xs : List Value) (st : List (Nat × T)) : Prop :=
  xs.length = st.length * 3 ∧ ∀ i (h : i < st.length), ∃ s : Option Addr × Nat, xs[i * 3]? = some (.int .i64 st[i].2.head) ∧ xs[i * 3 + 1]? = some (.slice s.1 st[i].2.args.length s.2) ∧ xs[i * 3 + 2]? = some (.int .i64 st[i].1) ∧
    RepT I (.agg #[.int .i64 st[i].2.head, .slice s.1 st[i].2.args.length s.2]) st[i].2
theorem RowK.mono {I J : Imm} {xs : List Value} {st : List (Nat × T)} (h : RowK I xs st) (hl : I.le J) : RowK J xs st :=
  ⟨h.1, fun i hi => let ⟨s, h1, h2, h3, h4⟩ := h.2 i hi; ⟨s, h1, h2, h3, h4.mono hl⟩⟩
theorem RowK.one {I : Imm} {d : Nat} {t : T} {a : Option Addr} {c : Nat} (h : RepT I (.agg #[.int .i64 t.head, .slice a t.args.length c]) t) : RowK I [.int .i64 t.head, .slice a t.args.length c, .int .i64 d] [(d, t)] :=
  ⟨rfl, fun i hi => by
    have : i = 0 := by simp at hi; omega
    subst this
    exact ⟨(a, c), rfl, rfl, rfl, h⟩⟩
theorem RowK.app {I : Imm} {xs ys : List Value} {ts us : List (Nat × T)} (h : RowK I xs ts) (k : RowK I ys us) : RowK I (xs ++ ys) (ts ++ us) := by
  refine ⟨by simp [h.1, k.1]; omega, fun i hi => ?_⟩
  by_cases hlt : i < ts.length
  · obtain ⟨s, h1, h2, h3, h4⟩ := h.2 i hlt
    have e : (ts ++ us)[i] = ts[i] := List.getElem_append_left hlt
    rw [e]
    exact ⟨s, by rw [List.getElem?_append_left (by rw [h.1]; omega)]; exact h1, by rw [List.getElem?_append_left (by rw [h.1]; omega)]; exact h2, by rw [List.getElem?_append_left (by rw [h.1]; omega)]; exact h3, h4⟩
  · have hi' : i - ts.length < us.length := by simp at hi; omega
    obtain ⟨s, h1, h2, h3, h4⟩ := k.2 (i - ts.length) hi'
    have e : (ts ++ us)[i] = us[i - ts.length] := List.getElem_append_right (by omega)
    rw [e]
    refine ⟨s, ?_, ?_, ?_, h4⟩
    · rw [List.getElem?_append_right (by rw [h.1]; omega), h.1, ← h1]; congr 1; omega
    · rw [List.getElem?_append_right (by rw [h.1]; omega), h.1, ← h2]; congr 1; omega
    · rw [List.getElem?_append_right (by rw [h.1]; omega), h.1, ← h3]; congr 1; omega
theorem RowK.take {I : Imm} {xs : List Value} {ts : List (Nat × T)} {x : Nat × T} (h : RowK I xs (ts ++ [x])) : RowK I (xs.take (ts.length * 3)) ts := by
  refine ⟨by rw [List.length_take, h.1]; simp only [List.length_append, List.length_cons, List.length_nil]; omega, fun i hi => ?_⟩
  obtain ⟨s, h1, h2, h3, h4⟩ := h.2 i (by simp; omega)
  have e : (ts ++ [x])[i]'(by simp; omega) = ts[i] := List.getElem_append_left hi
  rw [e] at h1 h2 h3 h4
  exact ⟨s, by rw [List.getElem?_take_of_lt (by omega)]; exact h1, by rw [List.getElem?_take_of_lt (by omega)]; exact h2, by rw [List.getElem?_take_of_lt (by omega)]; exact h3, h4⟩
theorem RowK.last {I : Imm} {xs : List Value} {ts : List (Nat × T)} {x : Nat × T} (h : RowK I xs (ts ++ [x])) :
    ∃ s : Option Addr × Nat, ld true 3 (xs.drop (ts.length * 3)) = some (.agg #[.int .i64 x.2.head, .slice s.1 x.2.args.length s.2, .int .i64 x.1]) ∧ RepT I (.agg #[.int .i64 x.2.head, .slice s.1 x.2.args.length s.2]) x.2 := by
  obtain ⟨s, h1, h2, h3, h4⟩ := h.2 ts.length (by simp)
  have e : (ts ++ [x])[ts.length]'(by simp) = x := by simp
  rw [e] at h1 h2 h3 h4
  refine ⟨s, ?_, h4⟩
  obtain ⟨l1, e1⟩ := List.getElem?_eq_some_iff.1 h1
  obtain ⟨l2, e2⟩ := List.getElem?_eq_some_iff.1 h2
  obtain ⟨l3, e3⟩ := List.getElem?_eq_some_iff.1 h3
  rw [List.drop_eq_getElem_cons l1, List.drop_eq_getElem_cons l2, List.drop_eq_getElem_cons l3, e1, e2, e3]
  rfl
end Go.Proofs.Ythbcdffldcdfoaa
/- Facts on this translation's types and functions, each checked by the kernel. No condition. -/
namespace Go.Proofs.Ythbcdffldcdfoaa
open Go Lg
theorem ty3 : Ty Try.prog 3 false 1 := ⟨⟨_, Try.underlying3, rfl⟩, by kernel_rfl, fun _ => rfl⟩
theorem sz3 : (Try.prog.info? 3).map (·.size) = some 1 := by kernel_rfl
theorem ty4 : Ty Try.prog 4 false 1 := ⟨⟨_, Try.underlying4, rfl⟩, by kernel_rfl, fun _ => rfl⟩
theorem sz4 : (Try.prog.info? 4).map (·.size) = some 1 := by kernel_rfl
theorem ty24 : Ty Try.prog 24 false 1 := ⟨⟨_, Try.underlying24, rfl⟩, by kernel_rfl, fun _ => rfl⟩
theorem sz24 : (Try.prog.info? 24).map (·.size) = some 1 := by kernel_rfl
theorem ty27 : Ty Try.prog 27 false 1 := ⟨⟨_, Try.underlying27, rfl⟩, by kernel_rfl, fun _ => rfl⟩
theorem sz27 : (Try.prog.info? 27).map (·.size) = some 1 := by kernel_rfl
theorem ty28 : Ty Try.prog 28 false 1 := ⟨⟨_, Try.underlying28, rfl⟩, by kernel_rfl, fun _ => rfl⟩
theorem sz28 : (Try.prog.info? 28).map (·.size) = some 1 := by kernel_rfl
theorem ty30 : Ty Try.prog 30 true 7 := ⟨⟨_, Try.underlying30, rfl⟩, by kernel_rfl, fun h => by cases h⟩
theorem sz30 : (Try.prog.info? 30).map (·.size) = some 7 := by kernel_rfl
theorem ty39 : Ty Try.prog 39 true 5 := ⟨⟨_, Try.underlying39, rfl⟩, by kernel_rfl, fun h => by cases h⟩
theorem sz39 : (Try.prog.info? 39).map (·.size) = some 5 := by kernel_rfl
theorem ty48 : Ty Try.prog 48 false 1 := ⟨⟨_, Try.underlying48, rfl⟩, by kernel_rfl, fun _ => rfl⟩
theorem sz48 : (Try.prog.info? 48).map (·.size) = some 1 := by kernel_rfl
theorem ty51 : Ty Try.prog 51 false 1 := ⟨⟨_, Try.underlying51, rfl⟩, by kernel_rfl, fun _ => rfl⟩
theorem sz51 : (Try.prog.info? 51).map (·.size) = some 1 := by kernel_rfl
theorem ty53 : Ty Try.prog 53 true 1 := ⟨⟨_, Try.underlying53, rfl⟩, by kernel_rfl, fun h => by cases h⟩
theorem sz53 : (Try.prog.info? 53).map (·.size) = some 1 := by kernel_rfl
theorem ty55 : Ty Try.prog 55 true 3 := ⟨⟨_, Try.underlying55, rfl⟩, by kernel_rfl, fun h => by cases h⟩
theorem sz55 : (Try.prog.info? 55).map (·.size) = some 3 := by kernel_rfl
theorem ty57 : Ty Try.prog 57 true 2 := ⟨⟨_, Try.underlying57, rfl⟩, by kernel_rfl, fun h => by cases h⟩
theorem sz57 : (Try.prog.info? 57).map (·.size) = some 2 := by kernel_rfl
theorem ty70 : Ty Try.prog 70 true 4 := ⟨⟨_, Try.underlying70, rfl⟩, by kernel_rfl, fun h => by cases h⟩
theorem sz70 : (Try.prog.info? 70).map (·.size) = some 4 := by kernel_rfl
theorem ty77 : Ty Try.prog 77 false 1 := ⟨⟨_, Try.underlying77, rfl⟩, by kernel_rfl, fun _ => rfl⟩
theorem sz77 : (Try.prog.info? 77).map (·.size) = some 1 := by kernel_rfl
theorem ty79 : Ty Try.prog 79 true 1 := ⟨⟨_, Try.underlying79, rfl⟩, by kernel_rfl, fun h => by cases h⟩
theorem sz79 : (Try.prog.info? 79).map (·.size) = some 1 := by kernel_rfl
theorem ty85 : Ty Try.prog 85 true 6 := ⟨⟨_, Try.underlying85, rfl⟩, by kernel_rfl, fun h => by cases h⟩
theorem sz85 : (Try.prog.info? 85).map (·.size) = some 6 := by kernel_rfl
theorem ty87 : Ty Try.prog 87 false 1 := ⟨⟨_, Try.underlying87, rfl⟩, by kernel_rfl, fun _ => rfl⟩
theorem sz87 : (Try.prog.info? 87).map (·.size) = some 1 := by kernel_rfl
theorem ty89 : Ty Try.prog 89 true 1 := ⟨⟨_, Try.underlying89, rfl⟩, by kernel_rfl, fun h => by cases h⟩
theorem sz89 : (Try.prog.info? 89).map (·.size) = some 1 := by kernel_rfl
theorem ty93 : Ty Try.prog 93 false 1 := ⟨⟨_, Try.underlying93, rfl⟩, by kernel_rfl, fun _ => rfl⟩
theorem sz93 : (Try.prog.info? 93).map (·.size) = some 1 := by kernel_rfl
theorem ty95 : Ty Try.prog 95 false 1 := ⟨⟨_, Try.underlying95, rfl⟩, by kernel_rfl, fun _ => rfl⟩
theorem sz95 : (Try.prog.info? 95).map (·.size) = some 1 := by kernel_rfl
theorem ty97 : Ty Try.prog 97 true 2 := ⟨⟨_, Try.underlying97, rfl⟩, by kernel_rfl, fun h => by cases h⟩
theorem sz97 : (Try.prog.info? 97).map (·.size) = some 2 := by kernel_rfl
theorem ty102 : Ty Try.prog 102 true 2 := ⟨⟨_, Try.underlying102, rfl⟩, by kernel_rfl, fun h => by cases h⟩
theorem sz102 : (Try.prog.info? 102).map (·.size) = some 2 := by kernel_rfl
theorem ty104 : Ty Try.prog 104 true 5 := ⟨⟨_, Try.underlying104, rfl⟩, by kernel_rfl, fun h => by cases h⟩
theorem sz104 : (Try.prog.info? 104).map (·.size) = some 5 := by kernel_rfl
theorem ty105 : Ty Try.prog 105 true 5 := ⟨⟨_, Try.underlying105, rfl⟩, by kernel_rfl, fun h => by cases h⟩
theorem sz105 : (Try.prog.info? 105).map (·.size) = some 5 := by kernel_rfl
theorem ty108 : Ty Try.prog 108 true 2 := ⟨⟨_, Try.underlying108, rfl⟩, by kernel_rfl, fun h => by cases h⟩
theorem sz108 : (Try.prog.info? 108).map (·.size) = some 2 := by kernel_rfl
theorem ty110 : Ty Try.prog 110 true 5 := ⟨⟨_, Try.underlying110, rfl⟩, by kernel_rfl, fun h => by cases h⟩
theorem sz110 : (Try.prog.info? 110).map (·.size) = some 5 := by kernel_rfl
theorem z3 : (Try.prog.info? 3).map (·.zero) = some (some (.int .i64 0)) := by kernel_rfl
theorem z30 : (Try.prog.info? 30).map (·.zero) = some (some (.agg #[(.int .i64 0), (.int .i64 0), (.int .i64 0), (.int .i64 0), (.slice none 0 0), (.int .i64 0), (.slice none 0 0)])) := by kernel_rfl
theorem z39 : (Try.prog.info? 39).map (·.zero) = some (some (.agg #[(.slice none 0 0), (.int .i64 0), (.slice none 0 0), (.int .i64 0), (.int .i64 0)])) := by kernel_rfl
theorem z53 : (Try.prog.info? 53).map (·.zero) = some (some (.agg #[(.slice none 0 0)])) := by kernel_rfl
theorem z55 : (Try.prog.info? 55).map (·.zero) = some (some (.agg #[(.int .i64 0), (.int .i64 0), (.int .i64 0)])) := by kernel_rfl
theorem z57 : (Try.prog.info? 57).map (·.zero) = some (some (.agg #[(.int .i64 0), (.int .i64 0)])) := by kernel_rfl
theorem z70 : (Try.prog.info? 70).map (·.zero) = some (some (.agg #[(.slice none 0 0), (.int .i64 0), (.int .i64 0), (.int .i64 0)])) := by kernel_rfl
theorem z79 : (Try.prog.info? 79).map (·.zero) = some (some (.agg #[(.slice none 0 0)])) := by kernel_rfl
theorem z85 : (Try.prog.info? 85).map (·.zero) = some (some (.agg #[(.slice none 0 0), (.slice none 0 0), (.slice none 0 0), (.slice none 0 0), (.slice none 0 0), (.slice none 0 0)])) := by kernel_rfl
theorem z89 : (Try.prog.info? 89).map (·.zero) = some (some (.agg #[.nilFunc])) := by kernel_rfl
theorem z97 : (Try.prog.info? 97).map (·.zero) = some (some (.agg #[(.slice none 0 0), (.map none)])) := by kernel_rfl
theorem z102 : (Try.prog.info? 102).map (·.zero) = some (some (.agg #[(.pointer none), (.int .i64 0)])) := by kernel_rfl
theorem z104 : (Try.prog.info? 104).map (·.zero) = some (some (.agg #[(.pointer none), (.int .i64 0), (.pointer none), (.int .i64 0), (.int .i64 0)])) := by kernel_rfl
theorem z105 : (Try.prog.info? 105).map (·.zero) = some (some (.agg #[(.int .i64 0), (.int .i64 0), (.int .i64 0), (.int .i64 0), (.int .i64 0)])) := by kernel_rfl
theorem z108 : (Try.prog.info? 108).map (·.zero) = some (some (.agg #[(.int .i64 0), (.slice none 0 0)])) := by kernel_rfl
theorem z110 : (Try.prog.info? 110).map (·.zero) = some (some (.agg #[(.bool false), (.int .i64 0), (.slice none 0 0), (.int .i64 0), (.slice none 0 0)])) := by kernel_rfl
theorem bs3 : (Try.prog.info? 3).map (fun i => (i.zero, i.size, i.bytes)) = some (some (.int .i64 0), 1, 8) := by kernel_rfl
theorem bs39 : (Try.prog.info? 39).map (fun i => (i.zero, i.size, i.bytes)) = some (some (.agg #[(.slice none 0 0), (.int .i64 0), (.slice none 0 0), (.int .i64 0), (.int .i64 0)]), 5, 72) := by kernel_rfl
theorem bs57 : (Try.prog.info? 57).map (fun i => (i.zero, i.size, i.bytes)) = some (some (.agg #[(.int .i64 0), (.int .i64 0)]), 2, 16) := by kernel_rfl
theorem bs108 : (Try.prog.info? 108).map (fun i => (i.zero, i.size, i.bytes)) = some (some (.agg #[(.int .i64 0), (.slice none 0 0)]), 2, 32) := by kernel_rfl
theorem bs110 : (Try.prog.info? 110).map (fun i => (i.zero, i.size, i.bytes)) = some (some (.agg #[(.bool false), (.int .i64 0), (.slice none 0 0), (.int .i64 0), (.slice none 0 0)]), 5, 72) := by kernel_rfl
theorem fz3 : (Try.prog.info? 3).map (fun i => Nat.blt 0 i.size) = some true := by kernel_rfl
theorem fz27 : (Try.prog.info? 27).map (fun i => Nat.blt 0 i.size) = some true := by kernel_rfl
theorem fz28 : (Try.prog.info? 28).map (fun i => Nat.blt 0 i.size) = some true := by kernel_rfl
theorem fz48 : (Try.prog.info? 48).map (fun i => Nat.blt 0 i.size) = some true := by kernel_rfl
theorem fz51 : (Try.prog.info? 51).map (fun i => Nat.blt 0 i.size) = some true := by kernel_rfl
theorem fz53 : (Try.prog.info? 53).map (fun i => Nat.blt 0 i.size) = some true := by kernel_rfl
theorem fz77 : (Try.prog.info? 77).map (fun i => Nat.blt 0 i.size) = some true := by kernel_rfl
theorem fz87 : (Try.prog.info? 87).map (fun i => Nat.blt 0 i.size) = some true := by kernel_rfl
theorem fz93 : (Try.prog.info? 93).map (fun i => Nat.blt 0 i.size) = some true := by kernel_rfl
theorem fz95 : (Try.prog.info? 95).map (fun i => Nat.blt 0 i.size) = some true := by kernel_rfl
theorem fz102 : (Try.prog.info? 102).map (fun i => Nat.blt 0 i.size) = some true := by kernel_rfl
theorem fz108 : (Try.prog.info? 108).map (fun i => Nat.blt 0 i.size) = some true := by kernel_rfl
theorem bl39 : Bl Try.prog 39 [(.slice none 0 0), (.int .i64 0), (.slice none 0 0), (.int .i64 0), (.int .i64 0)] [(0, 1), (1, 1), (2, 1), (3, 1), (4, 1)] := ⟨⟨_, Try.underlying39, by kernel_rfl⟩, by kernel_rfl⟩
theorem bl53 : Bl Try.prog 53 [(.slice none 0 0)] [(0, 1)] := ⟨⟨_, Try.underlying53, by kernel_rfl⟩, by kernel_rfl⟩
theorem bl57 : Bl Try.prog 57 [(.int .i64 0), (.int .i64 0)] [(0, 1), (1, 1)] := ⟨⟨_, Try.underlying57, by kernel_rfl⟩, by kernel_rfl⟩
theorem bl70 : Bl Try.prog 70 [(.slice none 0 0), (.int .i64 0), (.int .i64 0), (.int .i64 0)] [(0, 1), (1, 1), (2, 1), (3, 1)] := ⟨⟨_, Try.underlying70, by kernel_rfl⟩, by kernel_rfl⟩
theorem bl79 : Bl Try.prog 79 [(.slice none 0 0)] [(0, 1)] := ⟨⟨_, Try.underlying79, by kernel_rfl⟩, by kernel_rfl⟩
theorem bl89 : Bl Try.prog 89 [.nilFunc] [(0, 1)] := ⟨⟨_, Try.underlying89, by kernel_rfl⟩, by kernel_rfl⟩
theorem bl97 : Bl Try.prog 97 [(.slice none 0 0), (.map none)] [(0, 1), (1, 1)] := ⟨⟨_, Try.underlying97, by kernel_rfl⟩, by kernel_rfl⟩
theorem bl102 : Bl Try.prog 102 [(.pointer none), (.int .i64 0)] [(0, 1), (1, 1)] := ⟨⟨_, Try.underlying102, by kernel_rfl⟩, by kernel_rfl⟩
theorem bl104 : Bl Try.prog 104 [(.pointer none), (.int .i64 0), (.pointer none), (.int .i64 0), (.int .i64 0)] [(0, 2), (2, 2), (4, 1)] := ⟨⟨_, Try.underlying104, by kernel_rfl⟩, by kernel_rfl⟩
theorem pl10 : Plainf Try.prog 10 = true := by kernel_rfl
theorem pl11 : Plainf Try.prog 11 = true := by kernel_rfl
theorem pl12 : Plainf Try.prog 12 = true := by kernel_rfl
theorem pl13 : Plainf Try.prog 13 = true := by kernel_rfl
theorem pl14 : Plainf Try.prog 14 = true := by kernel_rfl
theorem pl15 : Plainf Try.prog 15 = true := by kernel_rfl
theorem pl16 : Plainf Try.prog 16 = true := by kernel_rfl
theorem pl17 : Plainf Try.prog 17 = true := by kernel_rfl
theorem pl18 : Plainf Try.prog 18 = true := by kernel_rfl
theorem pl19 : Plainf Try.prog 19 = true := by kernel_rfl
theorem pl20 : Plainf Try.prog 20 = true := by kernel_rfl
theorem pl21 : Plainf Try.prog 21 = true := by kernel_rfl
theorem pl22 : Plainf Try.prog 22 = true := by kernel_rfl
theorem pl23 : Plainf Try.prog 23 = true := by kernel_rfl
theorem pl24 : Plainf Try.prog 24 = true := by kernel_rfl
theorem pl25 : Plainf Try.prog 25 = true := by kernel_rfl
theorem pl26 : Plainf Try.prog 26 = true := by kernel_rfl
theorem pl27 : Plainf Try.prog 27 = true := by kernel_rfl
theorem pl28 : Plainf Try.prog 28 = true := by kernel_rfl
theorem pl29 : Plainf Try.prog 29 = true := by kernel_rfl
theorem pl30 : Plainf Try.prog 30 = true := by kernel_rfl
theorem pl31 : Plainf Try.prog 31 = true := by kernel_rfl
theorem pl32 : Plainf Try.prog 32 = true := by kernel_rfl
theorem pl33 : Plainf Try.prog 33 = true := by kernel_rfl
theorem pl34 : Plainf Try.prog 34 = true := by kernel_rfl
theorem pl35 : Plainf Try.prog 35 = true := by kernel_rfl
theorem pl36 : Plainf Try.prog 36 = true := by kernel_rfl
theorem pl37 : Plainf Try.prog 37 = true := by kernel_rfl
theorem pl38 : Plainf Try.prog 38 = true := by kernel_rfl
theorem pl39 : Plainf Try.prog 39 = true := by kernel_rfl
theorem pl40 : Plainf Try.prog 40 = true := by kernel_rfl
theorem pl41 : Plainf Try.prog 41 = true := by kernel_rfl
theorem pl42 : Plainf Try.prog 42 = true := by kernel_rfl
theorem pl43 : Plainf Try.prog 43 = true := by kernel_rfl
theorem pl44 : Plainf Try.prog 44 = true := by kernel_rfl
theorem pl45 : Plainf Try.prog 45 = true := by kernel_rfl
theorem pl46 : Plainf Try.prog 46 = true := by kernel_rfl
theorem pl47 : Plainf Try.prog 47 = true := by kernel_rfl
theorem pl48 : Plainf Try.prog 48 = true := by kernel_rfl
theorem pl50 : Plainf Try.prog 50 = true := by kernel_rfl
theorem pl51 : Plainf Try.prog 51 = true := by kernel_rfl
theorem pl52 : Plainf Try.prog 52 = true := by kernel_rfl
theorem pl53 : Plainf Try.prog 53 = true := by kernel_rfl
theorem pl54 : Plainf Try.prog 54 = true := by kernel_rfl
theorem pl55 : Plainf Try.prog 55 = true := by kernel_rfl
theorem pl56 : Plainf Try.prog 56 = true := by kernel_rfl
theorem pl57 : Plainf Try.prog 57 = true := by kernel_rfl
theorem pl58 : Plainf Try.prog 58 = true := by kernel_rfl
theorem pl59 : Plainf Try.prog 59 = true := by kernel_rfl
theorem pl60 : Plainf Try.prog 60 = true := by kernel_rfl
theorem pl61 : Plainf Try.prog 61 = true := by kernel_rfl
theorem pl62 : Plainf Try.prog 62 = true := by kernel_rfl
theorem pl63 : Plainf Try.prog 63 = true := by kernel_rfl
theorem pl64 : Plainf Try.prog 64 = true := by kernel_rfl
theorem pl65 : Plainf Try.prog 65 = true := by kernel_rfl
theorem pl66 : Plainf Try.prog 66 = true := by kernel_rfl
theorem pl67 : Plainf Try.prog 67 = true := by kernel_rfl
theorem mixed : Try.prog.follows .mixedOrders = true := by kernel_rfl
end Go.Proofs.Ythbcdffldcdfoaa
/- Walks: rows of numbers. -/
set_option linter.unusedVariables false
set_option linter.unusedSimpArgs false
/- short -/
namespace Go.Proofs.Ythbcdffldcdfoaa
open Go Lg

theorem Ints_does (I : Imm) {va vb : Value} {xs ys : List Int} (ha : RInts I va xs) (hb : RInts I vb ys) :
    Does Try.prog 51 [va, vb] I [] (fun v I' δ' => v = .bool (decide (xs = ys)) ∧ δ' = []) := by
  obtain ⟨ad, c, xs, hc, hn, hca, hra⟩ := ha
  obtain ⟨bd, e, ys, he, hm, hcb, hrb⟩ := hb
  refine Does.intro Try.func51 rfl Try.ntmps51 rfl fun w0 => ?_
  refine code_seq ?_
  refine code_region ?_
  refine op_v (v_assign rfl) rfl ?_
  refine ops_nil ?_
  refine post_next ?_
  refine code_seq ?_
  refine code_seq ?_
  refine code_region ?_
  refine op_v (v_move rfl) rfl ?_
  refine op_v (v_len Try.underlying28 rfl) rfl ?_
  refine op_v (v_move rfl) rfl ?_
  refine op_v (v_len Try.underlying28 rfl) rfl ?_
  first | refine op_v (v_cmptA rfl rfl rfl) rfl ?_ | refine op_v (v_cmpfA rfl rfl rfl) rfl ?_ | refine op_v (v_cmp rfl rfl rfl) rfl ?_
  refine ops_nil ?_
  refine post_next ?_
  refine code_cond rfl (fun hc0 => ?_) (fun hc0 => ?_)
  · have hl : xs.length ≠ ys.length := by simp at hc0; omega
    refine code_seq ?_
    refine code_region ?_
    refine op_v (v_assign rfl) rfl ?_
    refine ops_nil ?_
    refine post_next ?_
    refine code_ret ?_
    refine post_ret_then ?_
    refine post_ret (rs := [.tmp 4]) rfl (List.Perm.refl _) (.cons (.tmp rfl) .nil) (List.nil_sublist _) ?_
    exact ⟨bool_f fun e => hl (by rw [e]), rfl⟩
  · have hl : xs.length = ys.length := by simp at hc0; omega
    refine code_skip ?_
    refine post_next ?_
    refine code_seq ?_
    refine code_seq ?_
    refine code_region ?_
    refine op_v (v_assign rfl) rfl ?_
    refine ops_nil ?_
    refine post_next ?_
    refine code_block ?_
    refine code_loop (fun m σ' I' δ' => ∃ k : Nat, k ≤ xs.length ∧ m = xs.length - k ∧ σ' = [(0, .slice ad xs.length c), (1, .slice bd ys.length e), (5, .int .i64 k)] ∧ I' = I ∧ δ' = [] ∧ ∀ j (h : j < k) (h1 : j < xs.length) (h2 : j < ys.length), xs[j] = ys[j]) xs.length [(0, .slice ad xs.length c), (1, .slice bd ys.length e), (5, .int .i64 (0 : Nat))] ⟨0, Nat.zero_le _, rfl, rfl, rfl, rfl, fun j h => by omega⟩ ⟨rfl, rfl, rfl, trivial⟩ ?_
    rintro m _ _ _ ⟨k, hk, rfl, rfl, rfl, rfl, hp⟩
    refine code_seq ?_
    refine code_seq ?_
    refine code_region ?_
    refine op_v (v_move rfl) rfl ?_
    refine op_v (v_move rfl) rfl ?_
    refine op_v (v_len Try.underlying28 rfl) rfl ?_
    first | refine op_v (v_cmptA rfl rfl rfl) rfl ?_ | refine op_v (v_cmpfA rfl rfl rfl) rfl ?_ | refine op_v (v_cmp rfl rfl rfl) rfl ?_
    refine ops_nil ?_
    refine post_next ?_
    refine code_cond rfl (fun hc1 => ?_) (fun hc1 => ?_)
    · have hlt : k < xs.length := by simpa using hc1
      have hlt' : k < ys.length := by omega
      have hs1 := ints_some hca k hlt
      have hs2 := ints_some hcb k hlt'
      refine code_skip ?_
      refine post_next ?_
      refine code_seq ?_
      refine code_block ?_
      refine code_seq ?_
      refine code_draw (.fl 0 (.fl 1 (.fl 2 (.fl 3 (.fl 4 (.fl 5 (.fl 6 (.fl 7 (.fl 8 .done))))))))) (fun _ => _) mixed (by kernel_rfl) (by kernel_rfl) (fun _ => (List.Sublist.refl _)) ?_
      refine e_fl rfl rfl (fun hs_ => PF.mk rfl (v_move rfl) hs_) ?_
      refine e_fl rfl rfl (fun hs_ => PF.mk rfl (v_move rfl) hs_) ?_
      first | refine e_fl rfl rfl (fun hs_ => PF.mk rfl (v_indexA Try.underlying28 sz3 rfl rfl) hs_) ?_ | refine e_fl rfl rfl (fun hs_ => PF.mk rfl (v_indexIA Try.underlying28 sz3 rfl rfl) hs_) ?_
      first | refine e_fl rfl rfl (fun hs_ => PF.mk rfl (v_loadI0 ty3 (ints_at hca k hlt) rfl rfl rfl) hs_) ?_ | refine e_fl rfl rfl (fun hs_ => PF.mk rfl (v_loadI ty3 (ints_at hca k hlt) rfl rfl rfl) hs_) ?_
      refine e_fl rfl rfl (fun hs_ => PF.mk rfl (v_move rfl) hs_) ?_
      refine e_fl rfl rfl (fun hs_ => PF.mk rfl (v_move rfl) hs_) ?_
      first | refine e_fl rfl rfl (fun hs_ => PF.mk rfl (v_indexA Try.underlying28 sz3 rfl rfl) hs_) ?_ | refine e_fl rfl rfl (fun hs_ => PF.mk rfl (v_indexIA Try.underlying28 sz3 rfl rfl) hs_) ?_
      first | refine e_fl rfl rfl (fun hs_ => PF.mk rfl (v_loadI0 ty3 (ints_at hcb k hlt') rfl rfl rfl) hs_) ?_ | refine e_fl rfl rfl (fun hs_ => PF.mk rfl (v_loadI ty3 (ints_at hcb k hlt') rfl rfl rfl) hs_) ?_
      first | refine e_fl rfl rfl (fun hs_ => PF.mk rfl (v_cmptA rfl rfl rfl) hs_) ?_ | refine e_fl rfl rfl (fun hs_ => PF.mk rfl (v_cmpfA rfl rfl rfl) hs_) ?_ | refine e_fl rfl rfl (fun hs_ => PF.mk rfl (v_cmp rfl rfl rfl) hs_) ?_
      refine e_done ?_
      refine post_next ?_
      refine code_cond rfl (fun hc2 => ?_) (fun hc2 => ?_)
      · have hne : xs[k] ≠ ys[k] := by simpa using hc2
        refine code_seq ?_
        refine code_region ?_
        refine op_v (v_assign rfl) rfl ?_
        refine ops_nil ?_
        refine post_next ?_
        refine code_ret ?_
        refine post_ret_block ?_
        refine post_ret_then ?_
        refine post_ret_then ?_
        refine post_ret_block ?_
        refine post_ret_then ?_
        refine post_ret (rs := [.tmp 4]) rfl (List.Perm.refl _) (.cons (.tmp rfl) .nil) (List.nil_sublist _) ?_
        exact ⟨bool_f fun e => hne (by subst e; rfl), rfl⟩
      · have heq : xs[k] = ys[k] := by simpa using hc2
        refine code_skip ?_
        refine post_out ?_
        refine post_next ?_
        refine code_region ?_
        refine op_v (v_move rfl) rfl ?_
        first | refine op_v (v_addb rfl rfl rfl (by omega)) rfl ?_ | refine op_v (v_add rfl rfl) rfl ?_
        refine op_v (v_assign rfl) rfl ?_
        refine ops_nil ?_
        refine post_again (xs.length - (k + 1)) [(0, .slice ad xs.length c), (1, .slice bd ys.length e), (5, .int .i64 ((k + 1 : Nat) : Int))] (by omega) ⟨k + 1, hlt, rfl, rfl, rfl, rfl, fun j h h1 h2 => ?_⟩ ⟨rfl, rfl, rfl, trivial⟩
        by_cases hj : j = k
        · subst hj; exact heq
        · exact hp j (by omega) h1 h2
    · have hge : ¬ k < xs.length := by simpa using hc1
      refine code_exit ?_
      refine post_exit_then ?_
      refine post_exit_then ?_
      refine post_exit ?_
      refine post_next ?_
      refine code_seq ?_
      refine code_region ?_
      refine op_v (v_assign rfl) rfl ?_
      refine ops_nil ?_
      refine post_next ?_
      refine code_ret ?_
      refine post_ret (rs := [.tmp 4]) rfl (List.Perm.refl _) (.cons (.tmp rfl) .nil) (List.nil_sublist _) ?_
      exact ⟨bool_t (List.ext_getElem hl fun j h1 h2 => hp j (by omega) h1 h2), rfl⟩
end Go.Proofs.Ythbcdffldcdfoaa
/- Walks: what is ranged over: a row from behind, a term's parts. -/
set_option linter.unusedVariables false
set_option linter.unusedSimpArgs false
/- short -/
namespace Go.Proofs.Ythbcdffldcdfoaa
open Go Lg

def encB (ts : List T) (ss : Nat → Option Addr × Nat) (_ : Imm) (i : Nat) (vs : List Value) : Prop :=
  ∃ hi : i < ts.length, vs = [.int .i64 i, .agg #[.int .i64 ts[i].head, .slice (ss i).1 ts[i].args.length (ss i).2]]
end Go.Proofs.Ythbcdffldcdfoaa
/- Walk: a term's parts, ranged over. -/
set_option linter.unusedVariables false
set_option linter.unusedSimpArgs false
/- short -/
namespace Go.Proofs.Ythbcdffldcdfoaa
open Go Lg

theorem Lg.OpsJ.rowSome {C : Ctx} {Q : Exit → Act → World → Prop} {σ : Env} {ds : List Nat} {I : Imm} {δ : List Ent} {ops : Array Oper} {rest : List Oper} {A : Option Addr} {c n size : Nat} {e : TypeId} {xs : List Value} (hd : Has δ (.row (.slice A n c) e size n xs)) (hn : 0 < n)
    (h : A.isSome = true → n ≤ c → OpsJ C ops Q rest σ ds I δ) : OpsJ C ops Q rest σ ds I δ := by
  intro a w he hs ht
  have hr : w.ownsRow 0 e size (.slice A n c) n xs := hs.ents _ hd.mem
  rcases hr.2 with ⟨h1, h2⟩ | ⟨g, cap, cur, h1, _, _, h3, _⟩
  · omega
  · cases h1
    exact h rfl h3 a w he hs ht

theorem partsT_eq (d : Nat) (u : T) : partsT d u = (d, u) :: partsL (d + 1) u.args := by cases u; rfl
def encP (I : Imm) (x : Nat × T) (vs : List Value) : Prop :=
  ∃ a c, vs = [.int .i64 x.1, .agg #[.int .i64 x.2.head, .slice a x.2.args.length c]] ∧ RepT I (.agg #[.int .i64 x.2.head, .slice a x.2.args.length c]) x.2

end Go.Proofs.Ythbcdffldcdfoaa
/- Walks: size, depth, variables and rightness of a term, by the program. -/
set_option linter.unusedVariables false
set_option linter.unusedSimpArgs false
/- short -/
namespace Go.Proofs.Ythbcdffldcdfoaa
open Go Lg

/-! ### models -/
mutual
def depT : T → Nat
  | .mk _ ts => 1 + depL ts
def depL : List T → Nat
  | [] => 0
  | t :: r => max (depT t) (depL r)
end
def deepP (l : List (Nat × T)) : Nat := l.foldl (fun m x => max m x.1) 0
theorem deepP_snoc (l : List (Nat × T)) (x : Nat × T) : deepP (l ++ [x]) = max (deepP l) x.1 := by simp [deepP]
theorem foldl_max (l : List (Nat × T)) (m : Nat) : l.foldl (fun m x => max m x.1) m = max m (deepP l) := by
  induction l generalizing m with
  | nil => simp [deepP]
  | cons x r ih => rw [deepP, List.foldl_cons, List.foldl_cons, ih, ih]; omega
theorem deepP_app (l r : List (Nat × T)) : deepP (l ++ r) = max (deepP l) (deepP r) := by rw [deepP, List.foldl_append, foldl_max]; rfl
theorem deepP_cons (x : Nat × T) (r : List (Nat × T)) : deepP (x :: r) = max x.1 (deepP r) := by rw [deepP, List.foldl_cons, foldl_max]; omega
mutual
theorem deepP_T : ∀ (d : Nat) (t : T), deepP (partsT d t) + 1 = d + depT t
  | d, .mk h ts => by
    rw [partsT, deepP_cons]
    have := deepP_L (d + 1) ts
    simp only [depT]
    rcases this with ⟨rfl, h1⟩ | h1
    · simp [partsL, deepP, depL]
    · omega
theorem deepP_L : ∀ (d : Nat) (ts : List T), (ts = [] ∧ deepP (partsL d ts) = 0) ∨ deepP (partsL d ts) + 1 = d + depL ts
  | d, [] => .inl ⟨rfl, rfl⟩
  | d, t :: r => by
    right
    rw [partsL, deepP_app]
    have h1 := deepP_T d t
    have hd : 1 ≤ depT t := by cases t; simp [depT]
    simp only [depL]
    rcases deepP_L d r with ⟨hr, h2⟩ | h2
    · subst hr
      have h3 : depL ([] : List T) = 0 := by simp [depL]
      rw [h2, h3]; omega
    · omega
end
theorem dep_deep (t : T) : deepP (partsT 1 t) = depT t := by have := deepP_T 1 t; omega
mutual
theorem depT_size : ∀ t : T, depT t ≤ t.size
  | .mk h ts => by have := depL_size ts; simp [depT, T.size]; omega
theorem depL_size : ∀ ts : List T, depL ts ≤ sizeL ts
  | [] => by simp [depL, sizeL]
  | t :: r => by have := depT_size t; have := depL_size r; simp [depL, sizeL]; omega
end

end Go.Proofs.Ythbcdffldcdfoaa
/- Walks: a number among others; variables and rightness of a term; comparisons of numbers. -/
set_option linter.unusedVariables false
set_option linter.unusedSimpArgs false
/- short -/
namespace Go.Proofs.Ythbcdffldcdfoaa
open Go Lg

theorem ld_at {cs : List Value} {o : Nat} {x : Value} (h : cs[o]? = some x) : ld false 1 (cs.drop o) = some x := by
  obtain ⟨hl, rfl⟩ := List.getElem?_eq_some_iff.1 h
  rw [List.drop_eq_getElem_cons hl]; rfl
abbrev iRow (ar : Option Addr) (cr : Nat) (xs : List Int) : Ent := .row (.slice ar xs.length cr) 3 1 xs.length (xs.map (Value.int .i64))
theorem Index_does {I : Imm} {ar : Option Addr} {cr : Nat} {xs : List Int} {x : Int} (hb : xs.length ≤ 1000000000) :
    Does Try.prog 61 [.slice ar xs.length cr, .int .i64 x] I [iRow ar cr xs] (fun v I' δ' => (∃ n : Int, v = .int .i64 n ∧ (0 ≤ n ↔ x ∈ xs)) ∧ δ' = [iRow ar cr xs]) := by
  refine Does.intro Try.func61 rfl Try.ntmps61 rfl fun w0 => ?_
  refine code_seq ?_
  refine code_region ?_
  refine op_v (v_assign rfl) rfl ?_
  refine ops_nil ?_
  refine post_next ?_
  refine code_seq ?_
  refine code_seq ?_
  refine code_region ?_
  refine op_v (v_move rfl) rfl ?_
  refine op_v (v_len Try.underlying28 rfl) rfl ?_
  refine op_v (v_move rfl) rfl ?_
  refine ops_nil ?_
  refine post_next ?_
  refine code_block ?_
  refine code_loop (fun m σ' I' δ' => ∃ k : Nat, m = xs.length - k ∧ σ' = [(0, .slice ar xs.length cr), (1, .int .i64 x), (7, .int .i64 xs.length), (8, .int .i64 k)] ∧ I' = I ∧ δ' = [iRow ar cr xs] ∧ k ≤ xs.length ∧ x ∉ xs.take k) (xs.length - 0) [(0, .slice ar xs.length cr), (1, .int .i64 x), (7, .int .i64 xs.length), (8, .int .i64 (0 : Nat))] ⟨0, rfl, rfl, rfl, rfl, ⟨Nat.zero_le _, by simp⟩⟩ ⟨rfl, rfl, rfl, rfl, trivial⟩ ?_
  rintro m _ _ _ ⟨k, rfl, rfl, rfl, rfl, hp⟩
  obtain ⟨hk, hp⟩ := hp
  refine code_seq ?_
  refine code_region ?_
  first | refine op_v (v_cmptA rfl rfl rfl) rfl ?_ | refine op_v (v_cmpfA rfl rfl rfl) rfl ?_ | refine op_v (v_cmp rfl rfl rfl) rfl ?_
  refine ops_nil ?_
  refine post_next ?_
  refine code_seq ?_
  refine code_cond rfl (fun hc0 => ?_) (fun hc0 => ?_)
  · have hlt : k < xs.length := by simpa using hc0
    refine code_skip ?_
    refine post_next ?_
    refine code_seq ?_
    refine code_block ?_
    refine code_seq ?_
    refine code_region ?_
    refine op_v (v_move rfl) rfl ?_
    refine op_v (v_assign rfl) rfl ?_
    refine ops_nil ?_
    refine post_next ?_
    refine code_seq ?_
    refine code_region ?_
    refine OpsJ.rowSome Has.here (by omega) (fun hA hcr => ?_)
    refine op_v (v_move rfl) rfl ?_
    refine op_v (v_move rfl) rfl ?_
    refine op_v (v_move rfl) rfl ?_
    first | refine op_v (v_indexA Try.underlying28 sz3 rfl rfl) rfl ?_ | refine op_v (v_indexIA Try.underlying28 sz3 rfl rfl) rfl ?_
    refine op_v (v_loadRow ty3 rfl Has.here hA (ld_at (x := .int .i64 xs[k]) (by simp [hlt]))) rfl ?_
    first | refine op_v (v_cmptA rfl rfl rfl) rfl ?_ | refine op_v (v_cmpfA rfl rfl rfl) rfl ?_ | refine op_v (v_cmp rfl rfl rfl) rfl ?_
    refine ops_nil ?_
    refine post_next ?_
    refine code_cond rfl (fun hc1 => ?_) (fun hc1 => ?_)
    · have heq : x = xs[k] := by simpa using hc1
      refine code_seq ?_
      refine code_region ?_
      refine op_v (v_move rfl) rfl ?_
      refine op_v (v_assign rfl) rfl ?_
      refine ops_nil ?_
      refine post_next ?_
      refine code_ret ?_
      refine post_ret_block ?_
      refine post_ret_then ?_
      refine post_ret_then ?_
      refine post_ret_block ?_
      refine post_ret_then ?_
      refine post_ret (rs := [.tmp 4]) rfl (List.Perm.refl _) (.cons (.tmp rfl) .nil) (List.Sublist.refl _) ?_
      exact ⟨⟨k, rfl, by rw [heq]; simp⟩, rfl⟩
    · have hne : x ≠ xs[k] := by simpa using hc1
      refine code_skip ?_
      refine post_out ?_
      refine post_next ?_
      refine code_region ?_
      first | refine op_v (v_addb rfl rfl rfl (by omega)) rfl ?_ | refine op_v (v_add rfl rfl) rfl ?_
      refine op_v (v_move rfl) rfl ?_
      refine ops_nil ?_
      refine post_again (xs.length - (k + 1)) [(0, .slice ar xs.length cr), (1, .int .i64 x), (7, .int .i64 xs.length), (8, .int .i64 (k + 1 : Nat))] (by omega) ⟨k + 1, rfl, rfl, rfl, rfl, ⟨hlt, by rw [List.take_succ_eq_append_getElem hlt, List.mem_append, List.mem_singleton]; exact fun h => h.elim hp hne⟩⟩ ⟨rfl, rfl, rfl, rfl, trivial⟩
  · have hge : k = xs.length := by simp at hc0; omega
    subst hge
    rw [List.take_length] at hp
    refine code_exit ?_
    refine post_exit_then ?_
    refine post_exit_then ?_
    refine post_exit ?_
    refine post_next ?_
    refine code_seq ?_
    refine code_region ?_
    refine op_v (v_assign rfl) rfl ?_
    refine ops_nil ?_
    refine post_next ?_
    refine code_ret ?_
    refine post_ret (rs := [.tmp 4]) rfl (List.Perm.refl _) (.cons (.tmp rfl) .nil) (List.Sublist.refl _) ?_
    exact ⟨⟨-1, rfl, by simp [hp]⟩, rfl⟩
theorem Contains_does {I : Imm} {ar : Option Addr} {cr : Nat} {xs : List Int} {x : Int} (hb : xs.length ≤ 1000000000) :
    Does Try.prog 45 [.slice ar xs.length cr, .int .i64 x] I [iRow ar cr xs] (fun v I' δ' => v = .bool (decide (x ∈ xs)) ∧ δ' = [iRow ar cr xs]) := by
  refine Does.intro Try.func45 rfl Try.ntmps45 rfl fun w0 => ?_
  refine code_seq ?_
  refine code_region ?_
  refine op_v (v_assign rfl) rfl ?_
  refine ops_nil ?_
  refine post_next ?_
  refine code_seq ?_
  refine code_region ?_
  refine op_v (v_move rfl) rfl ?_
  refine op_v (v_move rfl) rfl ?_
  refine op_call pl61 rfl rfl ((Index_does hb)) Parts.all ?_
  rintro v7 I7 _ hI7 ⟨⟨n7, rfl, hn7⟩, rfl⟩
  first | refine op_v (v_cmptA rfl rfl rfl) rfl ?_ | refine op_v (v_cmpfA rfl rfl rfl) rfl ?_ | refine op_v (v_cmp rfl rfl rfl) rfl ?_
  refine op_v (v_assign rfl) rfl ?_
  refine ops_nil ?_
  refine post_next ?_
  refine code_ret ?_
  refine post_ret (rs := [.tmp 4]) rfl (List.Perm.refl _) (.cons (.tmp rfl) .nil) (List.Sublist.refl _) ?_
  exact ⟨bool_b (by simp [hn7]), rfl⟩

theorem isNaN_does {I : Imm} {x : Int} : Does Try.prog 67 [.int .i64 x] I [] (fun v I' δ' => v = .bool false ∧ δ' = []) := by
  refine Does.intro Try.func67 rfl Try.ntmps67 rfl fun w0 => ?_
  refine code_seq ?_
  refine code_region ?_
  refine op_v (v_assign rfl) rfl ?_
  refine ops_nil ?_
  refine post_next ?_
  refine code_seq ?_
  refine code_region ?_
  refine op_v (v_move rfl) rfl ?_
  refine op_v (v_move rfl) rfl ?_
  first | refine op_v (v_cmptA rfl rfl rfl) rfl ?_ | refine op_v (v_cmpfA rfl rfl rfl) rfl ?_ | refine op_v (v_cmp rfl rfl rfl) rfl ?_
  refine op_v (v_assign rfl) rfl ?_
  refine ops_nil ?_
  refine post_next ?_
  refine code_ret ?_
  refine post_ret (rs := [.tmp 2]) rfl (List.Perm.refl _) (.cons (.tmp rfl) .nil) (List.nil_sublist _) ?_
  exact ⟨bool_b (by simp), rfl⟩
theorem cmpC_does {I : Imm} {a b : Int} : Does Try.prog 66 [.int .i64 a, .int .i64 b] I [] (fun v I' δ' => v = .int .i64 (ordI a b) ∧ δ' = []) := by
  refine Does.intro Try.func66 rfl Try.ntmps66 rfl fun w0 => ?_
  refine code_seq ?_
  refine code_region ?_
  refine op_v (v_assign rfl) rfl ?_
  refine ops_nil ?_
  refine post_next ?_
  refine code_seq ?_
  refine code_region ?_
  refine op_v (v_move rfl) rfl ?_
  refine op_call pl67 rfl rfl ((isNaN_does)) Parts.none ?_
  rintro v8 I8 _ hI8 ⟨rfl, rfl⟩
  refine op_v (v_assign rfl) rfl ?_
  refine ops_nil ?_
  refine post_next ?_
  refine code_seq ?_
  refine code_region ?_
  refine op_v (v_move rfl) rfl ?_
  refine op_call pl67 rfl rfl ((isNaN_does)) Parts.none ?_
  rintro v10 I10 _ hI10 ⟨rfl, rfl⟩
  refine op_v (v_assign rfl) rfl ?_
  refine ops_nil ?_
  refine post_next ?_
  refine code_seq ?_
  refine code_seq ?_
  refine code_region ?_
  refine op_v (v_move rfl) rfl ?_
  refine ops_nil ?_
  refine post_next ?_
  refine code_cond_f rfl ?_
  refine code_skip ?_
  refine post_next ?_
  refine code_seq ?_
  refine code_seq ?_
  refine code_region ?_
  refine op_v (v_move rfl) rfl ?_
  refine ops_nil ?_
  refine post_next ?_
  refine code_cond_f rfl ?_
  refine code_skip ?_
  refine post_next ?_
  refine code_seq ?_
  refine code_seq ?_
  refine code_region ?_
  refine op_v (v_move rfl) rfl ?_
  refine op_v (v_move rfl) rfl ?_
  first | refine op_v (v_cmptA rfl rfl rfl) rfl ?_ | refine op_v (v_cmpfA rfl rfl rfl) rfl ?_ | refine op_v (v_cmp rfl rfl rfl) rfl ?_
  refine ops_nil ?_
  refine post_next ?_
  refine code_cond rfl (fun hc3 => ?_) (fun hc3 => ?_)
  · have h1 : a < b := by simpa using hc3
    refine code_seq ?_
    refine code_region ?_
    refine op_v (v_assign rfl) rfl ?_
    refine ops_nil ?_
    refine post_next ?_
    refine code_ret ?_
    refine post_ret_then ?_
    refine post_ret (rs := [.tmp 4]) rfl (List.Perm.refl _) (.cons (.tmp rfl) .nil) (List.nil_sublist _) ?_
    exact ⟨by simp [outV, ordI, h1], rfl⟩
  · have h1 : ¬ a < b := by simpa using hc3
    refine code_skip ?_
    refine post_next ?_
    refine code_seq ?_
    refine code_seq ?_
    refine code_region ?_
    refine op_v (v_move rfl) rfl ?_
    refine op_v (v_move rfl) rfl ?_
    first | refine op_v (v_cmptA rfl rfl rfl) rfl ?_ | refine op_v (v_cmpfA rfl rfl rfl) rfl ?_ | refine op_v (v_cmp rfl rfl rfl) rfl ?_
    refine ops_nil ?_
    refine post_next ?_
    refine code_cond rfl (fun hc4 => ?_) (fun hc4 => ?_)
    · have h2 : b < a := by simpa using hc4
      refine code_seq ?_
      refine code_region ?_
      refine op_v (v_assign rfl) rfl ?_
      refine ops_nil ?_
      refine post_next ?_
      refine code_ret ?_
      refine post_ret_then ?_
      refine post_ret (rs := [.tmp 4]) rfl (List.Perm.refl _) (.cons (.tmp rfl) .nil) (List.nil_sublist _) ?_
      exact ⟨by simp [outV, ordI, h1, h2], rfl⟩
    · have h2 : ¬ b < a := by simpa using hc4
      refine code_skip ?_
      refine post_next ?_
      refine code_seq ?_
      refine code_region ?_
      refine op_v (v_assign rfl) rfl ?_
      refine ops_nil ?_
      refine post_next ?_
      refine code_ret ?_
      refine post_ret (rs := [.tmp 4]) rfl (List.Perm.refl _) (.cons (.tmp rfl) .nil) (List.nil_sublist _) ?_
      exact ⟨by simp [outV, ordI, h1, h2], rfl⟩
def orI : List Int → Int
  | [] => 0
  | x :: r => if x ≠ 0 then x else orI r
theorem Or_does {I : Imm} {v : Value} {xs : List Int} (h : RInts I v xs) : Does Try.prog 65 [v] I [] (fun v I' δ' => v = .int .i64 (orI xs) ∧ δ' = []) := by
  obtain ⟨ad, c, xs, hc, hb, hat, hr⟩ := h
  refine Does.intro Try.func65 rfl Try.ntmps65 rfl fun w0 => ?_
  refine code_seq ?_
  refine code_region ?_
  refine op_v (v_assign rfl) rfl ?_
  refine ops_nil ?_
  refine post_next ?_
  refine code_seq ?_
  refine code_region ?_
  refine op_v (v_assign rfl) rfl ?_
  refine ops_nil ?_
  refine post_next ?_
  refine code_seq ?_
  refine code_seq ?_
  refine code_region ?_
  refine op_v (v_move rfl) rfl ?_
  refine op_v (v_len Try.underlying28 rfl) rfl ?_
  refine op_v (v_move rfl) rfl ?_
  refine ops_nil ?_
  refine post_next ?_
  refine code_block ?_
  refine code_loop (fun m σ' I' δ' => ∃ k : Nat, m = xs.length - k ∧ σ' = [(3, .int .i64 0), (6, .slice ad xs.length c), (7, .int .i64 xs.length), (8, .int .i64 k)] ∧ I' = I ∧ δ' = [] ∧ k ≤ xs.length ∧ orI xs = orI (xs.drop k)) (xs.length - 0) [(3, .int .i64 0), (6, .slice ad xs.length c), (7, .int .i64 xs.length), (8, .int .i64 (0 : Nat))] ⟨0, rfl, rfl, rfl, rfl, ⟨Nat.zero_le _, rfl⟩⟩ ⟨rfl, rfl, rfl, rfl, trivial⟩ ?_
  rintro m _ _ _ ⟨k, rfl, rfl, rfl, rfl, hp⟩
  obtain ⟨hk, hp⟩ := hp
  refine code_seq ?_
  refine code_region ?_
  first | refine op_v (v_cmptA rfl rfl rfl) rfl ?_ | refine op_v (v_cmpfA rfl rfl rfl) rfl ?_ | refine op_v (v_cmp rfl rfl rfl) rfl ?_
  refine ops_nil ?_
  refine post_next ?_
  refine code_seq ?_
  refine code_cond rfl (fun hc0 => ?_) (fun hc0 => ?_)
  · have hlt : k < xs.length := by simpa using hc0
    have hs1 := ints_some hat k hlt
    rw [List.drop_eq_getElem_cons hlt] at hp
    refine code_skip ?_
    refine post_next ?_
    refine code_seq ?_
    refine code_block ?_
    refine code_seq ?_
    refine code_region ?_
    first | refine op_v (v_indexA Try.underlying28 sz3 rfl rfl) rfl ?_ | refine op_v (v_indexIA Try.underlying28 sz3 rfl rfl) rfl ?_
    first | refine op_v (v_loadI0 ty3 (ints_at hat k hlt) rfl rfl rfl) rfl ?_ | refine op_v (v_loadI ty3 (ints_at hat k hlt) rfl rfl rfl) rfl ?_
    refine op_v (v_assign rfl) rfl ?_
    refine ops_nil ?_
    refine post_next ?_
    refine code_seq ?_
    refine code_region ?_
    refine op_v (v_move rfl) rfl ?_
    refine op_v (v_move rfl) rfl ?_
    first | refine op_v (v_cmptA rfl rfl rfl) rfl ?_ | refine op_v (v_cmpfA rfl rfl rfl) rfl ?_ | refine op_v (v_cmp rfl rfl rfl) rfl ?_
    refine ops_nil ?_
    refine post_next ?_
    refine code_cond rfl (fun hc1 => ?_) (fun hc1 => ?_)
    · have hne : xs[k] ≠ 0 := by simpa using hc1
      refine code_seq ?_
      refine code_region ?_
      refine op_v (v_move rfl) rfl ?_
      refine op_v (v_assign rfl) rfl ?_
      refine ops_nil ?_
      refine post_next ?_
      refine code_ret ?_
      refine post_ret_block ?_
      refine post_ret_then ?_
      refine post_ret_then ?_
      refine post_ret_block ?_
      refine post_ret_then ?_
      refine post_ret (rs := [.tmp 2]) rfl (List.Perm.refl _) (.cons (.tmp rfl) .nil) (List.nil_sublist _) ?_
      exact ⟨by simp [outV, hp, orI, hne], rfl⟩
    · have heq : xs[k] = 0 := by simpa using hc1
      refine code_skip ?_
      refine post_out ?_
      refine post_next ?_
      refine code_region ?_
      first | refine op_v (v_addb rfl rfl rfl (by omega)) rfl ?_ | refine op_v (v_add rfl rfl) rfl ?_
      refine op_v (v_move rfl) rfl ?_
      refine ops_nil ?_
      refine post_again (xs.length - (k + 1)) [(3, .int .i64 0), (6, .slice ad xs.length c), (7, .int .i64 xs.length), (8, .int .i64 (k + 1 : Nat))] (by omega) ⟨k + 1, rfl, rfl, rfl, rfl, ⟨hlt, by rw [hp]; simp [orI, heq]⟩⟩ ⟨rfl, rfl, rfl, rfl, trivial⟩
  · have hge : k = xs.length := by simp at hc0; omega
    subst hge
    rw [List.drop_length] at hp
    refine code_exit ?_
    refine post_exit_then ?_
    refine post_exit_then ?_
    refine post_exit ?_
    refine post_next ?_
    refine code_seq ?_
    refine code_region ?_
    refine op_v (v_move rfl) rfl ?_
    refine op_v (v_assign rfl) rfl ?_
    refine ops_nil ?_
    refine post_next ?_
    refine code_ret ?_
    refine post_ret (rs := [.tmp 2]) rfl (List.Perm.refl _) (.cons (.tmp rfl) .nil) (List.nil_sublist _) ?_
    exact ⟨by simp [outV, hp, orI], rfl⟩
theorem In_does {I : Imm} {ar : Option Addr} {cr : Nat} {xs : List Int} {x : Int} (hb : xs.length ≤ 1000000000) :
    Does Try.prog 19 [.int .i64 x, .slice ar xs.length cr] I [iRow ar cr xs] (fun v I' δ' => v = .bool (decide (x ∈ xs)) ∧ δ' = [iRow ar cr xs]) := by
  refine Does.intro Try.func19 rfl Try.ntmps19 rfl fun w0 => ?_
  refine code_seq ?_
  refine code_region ?_
  refine op_v (v_assign rfl) rfl ?_
  refine ops_nil ?_
  refine post_next ?_
  refine code_seq ?_
  refine code_seq ?_
  refine code_region ?_
  refine op_v (v_assign rfl) rfl ?_
  refine ops_nil ?_
  refine post_next ?_
  refine code_block ?_
  refine code_loop (fun m σ' I' δ' => ∃ k : Nat, m = xs.length - k ∧ σ' = [(0, .int .i64 x), (1, .slice ar xs.length cr), (5, .int .i64 k)] ∧ I' = I ∧ δ' = [iRow ar cr xs] ∧ k ≤ xs.length ∧ x ∉ xs.take k) (xs.length - 0) [(0, .int .i64 x), (1, .slice ar xs.length cr), (5, .int .i64 (0 : Nat))] ⟨0, rfl, rfl, rfl, rfl, ⟨Nat.zero_le _, by simp⟩⟩ ⟨rfl, rfl, rfl, trivial⟩ ?_
  rintro m _ _ _ ⟨k, rfl, rfl, rfl, rfl, hp⟩
  obtain ⟨hk, hp⟩ := hp
  refine code_seq ?_
  refine code_seq ?_
  refine code_region ?_
  refine op_v (v_move rfl) rfl ?_
  refine op_v (v_move rfl) rfl ?_
  refine op_v (v_len Try.underlying28 rfl) rfl ?_
  first | refine op_v (v_cmptA rfl rfl rfl) rfl ?_ | refine op_v (v_cmpfA rfl rfl rfl) rfl ?_ | refine op_v (v_cmp rfl rfl rfl) rfl ?_
  refine ops_nil ?_
  refine post_next ?_
  refine code_cond rfl (fun hc0 => ?_) (fun hc0 => ?_)
  · have hlt : k < xs.length := by simpa using hc0
    refine code_skip ?_
    refine post_next ?_
    refine code_seq ?_
    refine code_block ?_
    refine code_seq ?_
    refine code_region ?_
    refine OpsJ.rowSome Has.here (by omega) (fun hA hcr => ?_)
    refine op_v (v_move rfl) rfl ?_
    refine op_v (v_move rfl) rfl ?_
    first | refine op_v (v_indexA Try.underlying28 sz3 rfl rfl) rfl ?_ | refine op_v (v_indexIA Try.underlying28 sz3 rfl rfl) rfl ?_
    refine op_v (v_loadRow ty3 rfl Has.here hA (ld_at (x := .int .i64 xs[k]) (by simp [hlt]))) rfl ?_
    refine op_v (v_move rfl) rfl ?_
    first | refine op_v (v_cmptA rfl rfl rfl) rfl ?_ | refine op_v (v_cmpfA rfl rfl rfl) rfl ?_ | refine op_v (v_cmp rfl rfl rfl) rfl ?_
    refine ops_nil ?_
    refine post_next ?_
    refine code_cond rfl (fun hc1 => ?_) (fun hc1 => ?_)
    · have heq : xs[k] = x := by simpa using hc1
      refine code_seq ?_
      refine code_region ?_
      refine op_v (v_assign rfl) rfl ?_
      refine ops_nil ?_
      refine post_next ?_
      refine code_ret ?_
      refine post_ret_block ?_
      refine post_ret_then ?_
      refine post_ret_then ?_
      refine post_ret_block ?_
      refine post_ret_then ?_
      refine post_ret (rs := [.tmp 4]) rfl (List.Perm.refl _) (.cons (.tmp rfl) .nil) (List.Sublist.refl _) ?_
      exact ⟨by rw [show decide (x ∈ xs) = true by simp [← heq]]; rfl, rfl⟩
    · have hne : x ≠ xs[k] := by have h := hc1; simp at h; exact fun e => h e.symm
      refine code_skip ?_
      refine post_out ?_
      refine post_next ?_
      refine code_region ?_
      refine op_v (v_move rfl) rfl ?_
      first | refine op_v (v_addb rfl rfl rfl (by omega)) rfl ?_ | refine op_v (v_add rfl rfl) rfl ?_
      refine op_v (v_assign rfl) rfl ?_
      refine ops_nil ?_
      refine post_again (xs.length - (k + 1)) [(0, .int .i64 x), (1, .slice ar xs.length cr), (5, .int .i64 (k + 1 : Nat))] (by omega) ⟨k + 1, rfl, rfl, rfl, rfl, ⟨hlt, by rw [List.take_succ_eq_append_getElem hlt, List.mem_append, List.mem_singleton]; exact fun h => h.elim hp hne⟩⟩ ⟨rfl, rfl, rfl, trivial⟩
  · have hge : k = xs.length := by simp at hc0; omega
    subst hge
    rw [List.take_length] at hp
    refine code_exit ?_
    refine post_exit_then ?_
    refine post_exit_then ?_
    refine post_exit ?_
    refine post_next ?_
    refine code_seq ?_
    refine code_region ?_
    refine op_v (v_assign rfl) rfl ?_
    refine ops_nil ?_
    refine post_next ?_
    refine code_ret ?_
    refine post_ret (rs := [.tmp 4]) rfl (List.Perm.refl _) (.cons (.tmp rfl) .nil) (List.Sublist.refl _) ?_
    exact ⟨by rw [show decide (x ∈ xs) = false by simp [hp]]; rfl, rfl⟩
end Go.Proofs.Ythbcdffldcdfoaa
/- Walks: sizes, comparison. -/
set_option linter.unusedVariables false
set_option linter.unusedSimpArgs false
/- short -/
namespace Go.Proofs.Ythbcdffldcdfoaa
open Go Lg

theorem Count_does : ∀ (n : Nat) (t : T), t.size ≤ n → ∀ (q : Nat), q ≤ 1000000000 → ∀ (I : Imm) (v : Value), RepT I v t →
    Does Try.prog 62 [v, .int .i64 q] I [] (fun v I' δ' => v = .int .i64 ((min t.size (q + 1) : Nat) : Int) ∧ δ' = []) := by
  intro n
  induction n with
  | zero => intro t ht; have := t.size_pos; omega
  | succ n ih =>
    intro t ht q hq I v hv
    obtain ⟨h, ts⟩ := t
    obtain ⟨ad, c, ss, rfl, hr, hc, hb, hat, hsub⟩ := hv.elim
    have hsz : (T.mk h ts).size = 1 + sizeL ts := by simp [T.size]
    refine Does.intro Try.func62 rfl Try.ntmps62 rfl fun w0 => ?_
    refine code_seq ?_
    refine code_region ?_
    refine o_box rfl rfl rfl (fun b2 => ?_)
    refine op_v (v_assign rfl) rfl ?_
    refine ops_nil ?_
    refine post_next ?_
    refine code_seq ?_
    refine code_region ?_
    refine op_v (v_assign rfl) rfl ?_
    refine ops_nil ?_
    refine post_next ?_
    refine code_seq ?_
    refine code_seq ?_
    refine code_region ?_
    refine op_v (v_assign rfl) rfl ?_
    refine ops_nil ?_
    refine post_next ?_
    refine code_block ?_
    refine code_loop (fun m σ' I' δ' => ∃ k a : Nat, m = ts.length - k ∧ k ≤ ts.length ∧ σ' = [(1, .int .i64 q), (2, .pointer (some ⟨b2, 0, none⟩)), (5, .int .i64 a), (6, .int .i64 k)] ∧ I.le I' ∧ δ' = [.box b2 108 [.int .i64 h, .slice ad ts.length c]] ∧ a ≤ q + 1 ∧ min (a + sizeL (ts.drop k)) (q + 1) = min (1 + sizeL ts) (q + 1)) ts.length [(1, .int .i64 q), (2, .pointer (some ⟨b2, 0, none⟩)), (5, .int .i64 (1 : Nat)), (6, .int .i64 (0 : Nat))] ⟨0, 1, rfl, Nat.zero_le _, rfl, Imm.le_refl _, rfl, by omega, rfl⟩ ⟨rfl, rfl, rfl, rfl, trivial⟩ ?_
    rintro m _ I0 _ ⟨k, a, rfl, hk, rfl, hI0, rfl, ha, hp⟩
    refine code_seq ?_
    refine code_seq ?_
    refine code_region ?_
    refine op_v (v_move rfl) rfl ?_
    first | refine op_v (v_fieldB 1 Try.underlying108 rfl rfl fz93 rfl) rfl ?_ | refine op_v (v_fieldI 1 Try.underlying108 rfl rfl fz93 rfl (by assumption)) rfl ?_ | refine op_v (v_field Try.underlying108 rfl fz93 rfl rfl) rfl ?_
    refine op_v (v_loadA ty93 rfl rfl) rfl ?_
    refine op_v (v_len Try.underlying93 rfl) rfl ?_
    by_cases hlt : k < ts.length
    · first | refine op_v (v_cmptA rfl rfl rfl) rfl ?_ | refine op_v (v_cmpfA rfl rfl rfl) rfl ?_ | refine op_v (v_cmp rfl rfl rfl) rfl ?_
      refine op_v (v_move rfl) rfl ?_
      first
        | (refine op_want rfl rfl ?_
           refine op_v (v_move rfl) rfl ?_)
        | (refine op_skip rfl rfl (by simp [undef]) rfl ?_)
      first
        | (refine op_want rfl rfl ?_
           refine op_v (v_move rfl) rfl ?_)
        | (refine op_skip rfl rfl (by simp [undef]) rfl ?_)
      by_cases hle : a ≤ q
      · first
          | (refine op_want rfl rfl ?_
             first | refine op_v (v_cmptA rfl rfl rfl) rfl ?_ | refine op_v (v_cmpfA rfl rfl rfl) rfl ?_ | refine op_v (v_cmp rfl rfl rfl) rfl ?_)
          | (refine op_skip rfl rfl (by simp [undef]) rfl ?_)
        first | refine op_v (v_pickt rfl rfl) rfl ?_ | refine op_v (v_pickf rfl rfl) rfl ?_ | refine op_v (v_pickb rfl rfl rfl) rfl ?_
        refine ops_nil ?_
        refine post_next ?_
        refine code_cond_t rfl ?_
        refine code_skip ?_
        refine post_next ?_
        refine code_seq ?_
        refine code_block ?_
        refine code_region ?_
        have hs1 := (hat k hlt).isSome
        have hd := sizeL_drop ts k hlt
        have hm := sizeL_mem ts k hlt
        refine op_v (v_move rfl) rfl ?_
        first | refine op_v (v_fieldB 1 Try.underlying108 rfl rfl fz93 rfl) rfl ?_ | refine op_v (v_fieldI 1 Try.underlying108 rfl rfl fz93 rfl (by assumption)) rfl ?_ | refine op_v (v_field Try.underlying108 rfl fz93 rfl rfl) rfl ?_
        refine op_v (v_loadA ty93 rfl rfl) rfl ?_
        refine op_v (v_move rfl) rfl ?_
        first | refine op_v (v_indexA Try.underlying93 sz108 rfl rfl) rfl ?_ | refine op_v (v_indexIA Try.underlying93 sz108 rfl rfl) rfl ?_
        first | refine op_v (v_loadI0 ty108 ((hat k hlt).mono hI0) rfl rfl rfl) rfl ?_ | refine op_v (v_loadI ty108 ((hat k hlt).mono hI0) rfl rfl rfl) rfl ?_
        refine op_v (v_move rfl) rfl ?_
        refine op_v (v_move rfl) rfl ?_
        refine op_v (v_subb (c := ((q - a : Nat) : Int)) rfl rfl (by omega) (by omega)) rfl ?_
        refine op_call pl62 rfl rfl ((ih ts[k] (by omega) (q - a) (by omega) _ _ ((hsub k hlt).mono hI0))) Parts.none ?_
        rintro _ I18 _ hI18 ⟨rfl, rfl⟩
        first | refine op_v (v_addb rfl rfl rfl (by omega)) rfl ?_ | refine op_v (v_add rfl rfl) rfl ?_
        refine op_v (v_assign rfl) rfl ?_
        refine ops_nil ?_
        refine post_out ?_
        refine post_next ?_
        refine code_region ?_
        refine op_v (v_move rfl) rfl ?_
        first | refine op_v (v_addb rfl rfl rfl (by omega)) rfl ?_ | refine op_v (v_add rfl rfl) rfl ?_
        refine op_v (v_assign rfl) rfl ?_
        refine ops_nil ?_
        refine post_again (ts.length - (k + 1)) [(1, .int .i64 q), (2, .pointer (some ⟨b2, 0, none⟩)), (5, .int .i64 ((a + min ts[k].size (q - a + 1) : Nat) : Int)), (6, .int .i64 ((k + 1 : Nat) : Int))] (by omega) ⟨k + 1, a + min ts[k].size (q - a + 1), rfl, hlt, rfl, Imm.le_trans hI0 hI18, rfl, by omega, by omega⟩ ⟨rfl, rfl, rfl, rfl, trivial⟩
      · first
          | (refine op_want rfl rfl ?_
             first | refine op_v (v_cmptA rfl rfl rfl) rfl ?_ | refine op_v (v_cmpfA rfl rfl rfl) rfl ?_ | refine op_v (v_cmp rfl rfl rfl) rfl ?_)
          | (refine op_skip rfl rfl (by simp [undef]) rfl ?_)
        first | refine op_v (v_pickt rfl rfl) rfl ?_ | refine op_v (v_pickf rfl rfl) rfl ?_ | refine op_v (v_pickb rfl rfl rfl) rfl ?_
        refine ops_nil ?_
        refine post_next ?_
        refine code_cond_f rfl ?_
        refine code_exit ?_
        refine post_exit_then ?_
        refine post_exit_then ?_
        refine post_exit ?_
        refine post_next ?_
        refine code_seq ?_
        refine code_region ?_
        refine op_v (v_move rfl) rfl ?_
        refine op_v (v_assign rfl) rfl ?_
        refine ops_nil ?_
        refine post_next ?_
        refine code_ret ?_
        refine post_ret (rs := [.tmp 4]) rfl (List.Perm.refl _) (.cons (.tmp rfl) .nil) (List.nil_sublist _) ?_
        exact ⟨by simp only [outV, hsz, ← hp]; congr 2; omega, rfl⟩
    · first | refine op_v (v_cmptA rfl rfl rfl) rfl ?_ | refine op_v (v_cmpfA rfl rfl rfl) rfl ?_ | refine op_v (v_cmp rfl rfl rfl) rfl ?_
      refine op_v (v_move rfl) rfl ?_
      first
        | (refine op_want rfl rfl ?_
           refine op_v (v_move rfl) rfl ?_)
        | (refine op_skip rfl rfl (by simp [undef]) rfl ?_)
      first
        | (refine op_want rfl rfl ?_
           refine op_v (v_move rfl) rfl ?_)
        | (refine op_skip rfl rfl (by simp [undef]) rfl ?_)
      first
        | (refine op_want rfl rfl ?_
           first | refine op_v (v_cmptA rfl rfl rfl) rfl ?_ | refine op_v (v_cmpfA rfl rfl rfl) rfl ?_ | refine op_v (v_cmp rfl rfl rfl) rfl ?_)
        | (refine op_skip rfl rfl (by simp [undef]) rfl ?_)
      first | refine op_v (v_pickt rfl rfl) rfl ?_ | refine op_v (v_pickf rfl rfl) rfl ?_ | refine op_v (v_pickb rfl rfl rfl) rfl ?_
      refine ops_nil ?_
      refine post_next ?_
      refine code_cond_f rfl ?_
      refine code_exit ?_
      refine post_exit_then ?_
      refine post_exit_then ?_
      refine post_exit ?_
      refine post_next ?_
      refine code_seq ?_
      refine code_region ?_
      refine op_v (v_move rfl) rfl ?_
      refine op_v (v_assign rfl) rfl ?_
      refine ops_nil ?_
      refine post_next ?_
      refine code_ret ?_
      refine post_ret (rs := [.tmp 4]) rfl (List.Perm.refl _) (.cons (.tmp rfl) .nil) (List.nil_sublist _) ?_
      rw [List.drop_eq_nil_of_le (by omega)] at hp
      simp only [sizeL] at hp
      exact ⟨by simp only [outV, hsz, ← hp]; congr 2; omega, rfl⟩

end Go.Proofs.Ythbcdffldcdfoaa
/- Walks: copies, places. -/
set_option linter.unusedVariables false
set_option linter.unusedSimpArgs false
/- short -/
namespace Go.Proofs.Ythbcdffldcdfoaa
open Go Lg

end Go.Proofs.Ythbcdffldcdfoaa
/- Walks: places, by definition. -/
set_option linter.unusedVariables false
set_option linter.unusedSimpArgs false
/- short -/
namespace Go.Proofs.Ythbcdffldcdfoaa
open Go Lg

def AtR (t : T) (p : List Int) (v : Value) (I : Imm) : Prop := ∃ u, v = .tuple #[u, .bool (atT t p).isSome] ∧ RepT I u ((atT t p).getD zeroT)

end Go.Proofs.Ythbcdffldcdfoaa
/- Walks: places under others; clones. -/
set_option linter.unusedVariables false
set_option linter.unusedSimpArgs false
/- short -/
namespace Go.Proofs.Ythbcdffldcdfoaa
open Go Lg

theorem Clone_does (I : Imm) {ad : Option Addr} {n c : Nat} {xs : List Value} (hc : Cells I ad xs) (hl : xs.length = n * 2) (h1 : ∀ u ∈ xs, u.oneCell' = true) (hn : n ≤ 4398046511104) :
    Does Try.prog 64 [.slice ad n c] I [] (fun v I' δ' => ∃ ad' c', v = .slice ad' n c' ∧ δ' = [.row (.slice ad' n c') 108 2 n xs]) := by
  refine Does.intro Try.func64 rfl Try.ntmps64 rfl fun w0 => ?_
  refine code_seq ?_
  refine code_region ?_
  refine op_v (v_assign rfl) rfl ?_
  refine ops_nil ?_
  refine post_next ?_
  refine code_seq ?_
  refine code_seq ?_
  refine code_region ?_
  refine op_v (v_move rfl) rfl ?_
  refine op_v (v_nilq Try.underlying93 rfl rfl rfl) rfl ?_
  refine ops_nil ?_
  refine post_next ?_
  refine code_cond rfl (fun hc0 => ?_) (fun hc0 => ?_)
  · have had : ad = none := by simpa using hc0
    subst had
    have hn0 : n = 0 := by
      rcases Nat.eq_zero_or_pos n with h | h
      · exact h
      · exfalso
        have := hc 0 (xs[0]'(by omega)) (by simp)
        simp [Imm.cellO] at this
    subst hn0
    obtain rfl : xs = [] := List.eq_nil_of_length_eq_zero hl
    refine code_seq ?_
    refine code_region ?_
    refine op_v (v_assign rfl) rfl ?_
    refine ops_nil ?_
    refine post_next ?_
    refine code_ret ?_
    refine post_ret_then ?_
    refine PostJ.view (View.nilRow 108 2) (post_ret (rs := [.tmp 2]) rfl (List.Perm.refl _) (.cons (.tmp rfl) .nil) (List.Sublist.refl _) ⟨none, 0, rfl, rfl⟩)
  · refine code_skip ?_
    refine post_next ?_
    refine code_seq ?_
    refine code_region ?_
    refine o_buildSlice (xs := []) Try.underlying93 bs108 rfl rfl rfl rfl rfl (fun b5 => ?_)
    refine op_v (v_move rfl) rfl ?_
    refine o_append Try.underlying93 bs108 rfl rfl rfl (fun v' => by repeat (first | exact Swap.here | apply Swap.there)) (Src.ofI hc) hl h1 (by omega) (by omega) (fun a7 c7 => ?_)
    refine op_v (v_assign rfl) rfl ?_
    refine ops_nil ?_
    refine post_next ?_
    refine code_ret ?_
    refine post_ret (rs := [.tmp 2]) rfl (List.Perm.refl _) (.cons (.tmp rfl) .nil) (List.Sublist.refl _) ?_
    refine ⟨a7, c7, ?_, ?_⟩
    · simp [outV]
    · simp [cat]
end Go.Proofs.Ythbcdffldcdfoaa
/- Walks: the part at a place. -/
set_option linter.unusedVariables false
set_option linter.unusedSimpArgs false
/- short -/
namespace Go.Proofs.Ythbcdffldcdfoaa
open Go Lg

end Go.Proofs.Ythbcdffldcdfoaa
/- Walks: rows of numbers of one's own. -/
set_option linter.unusedVariables false
set_option linter.unusedSimpArgs false
/- short -/
namespace Go.Proofs.Ythbcdffldcdfoaa
open Go Lg

theorem Lg.Parts.three {δ δ1 δ2 δ3 : List Ent} {x y z : Ent} (h : Del δ x δ1) (k : Del δ1 y δ2) (l : Del δ2 z δ3) : Parts δ [x, y, z] δ3 := h.perm.trans (List.Perm.cons _ (Parts.two k l))

theorem CloneI_does {I : Imm} {v : Value} {xs : List Int} (h : RInts I v xs) :
    Does Try.prog 44 [v] I [] (fun v I' δ' => ∃ ad' c', v = .slice ad' xs.length c' ∧ δ' = [.row (.slice ad' xs.length c') 3 1 xs.length (xs.map (Value.int .i64))]) := by
  obtain ⟨ad, c, xs, hc, hb, hat, hr⟩ := h
  refine Does.intro Try.func44 rfl Try.ntmps44 rfl fun w0 => ?_
  refine code_seq ?_
  refine code_region ?_
  refine op_v (v_assign rfl) rfl ?_
  refine ops_nil ?_
  refine post_next ?_
  refine code_seq ?_
  refine code_seq ?_
  refine code_region ?_
  refine op_v (v_move rfl) rfl ?_
  refine op_v (v_nilq Try.underlying28 rfl rfl rfl) rfl ?_
  refine ops_nil ?_
  refine post_next ?_
  refine code_cond rfl (fun hc0 => ?_) (fun hc0 => ?_)
  · have had : ad = none := by simpa using hc0
    subst had
    have hn0 : xs = [] := by
      rcases xs with _ | ⟨x, r⟩
      · rfl
      · exact absurd (hat 0 (.int .i64 x) rfl) (by simp [Imm.cellO])
    subst hn0
    refine code_seq ?_
    refine code_region ?_
    refine op_v (v_assign rfl) rfl ?_
    refine ops_nil ?_
    refine post_next ?_
    refine code_ret ?_
    refine post_ret_then ?_
    refine PostJ.view (View.nilRow 3 1) (post_ret (rs := [.tmp 2]) rfl (List.Perm.refl _) (.cons (.tmp rfl) .nil) (List.Sublist.refl _) ⟨none, 0, rfl, rfl⟩)
  · refine code_skip ?_
    refine post_next ?_
    refine code_seq ?_
    refine code_region ?_
    refine o_buildSlice (xs := []) Try.underlying28 bs3 rfl rfl rfl rfl rfl (fun b5 => ?_)
    refine op_v (v_move rfl) rfl ?_
    refine o_append Try.underlying28 bs3 rfl rfl rfl (fun v' => by repeat (first | exact Swap.here | apply Swap.there)) (Src.ofI hat) (by simp) (by intro u hu; obtain ⟨x, _, rfl⟩ := List.mem_map.1 hu; rfl) (by omega) (by omega) (fun a7 c7 => ?_)
    refine op_v (v_assign rfl) rfl ?_
    refine ops_nil ?_
    refine post_next ?_
    refine code_ret ?_
    refine post_ret (rs := [.tmp 2]) rfl (List.Perm.refl _) (.cons (.tmp rfl) .nil) (List.Sublist.refl _) ?_
    refine ⟨a7, c7, ?_, ?_⟩
    · simp [outV]
    · simp [cat]

theorem RInts.of {I : Imm} {ad : Option Addr} {n c : Nat} {xs : List Int} (hn : n = xs.length) (hc : n ≤ c) (hb : n ≤ 17592186044416) (hat : Cells I ad (xs.map (Value.int .i64))) (hr : ∀ x ∈ xs, InR x) : RInts I (.slice ad n c) xs := by
  subst hn
  exact ⟨ad, c, xs, hc, hb, hat, hr⟩
theorem RInts.len {I : Imm} {v : Value} {xs : List Int} (h : RInts I v xs) : xs.length ≤ 17592186044416 ∧ ∀ x ∈ xs, InR x := by
  obtain ⟨ad, c, xs, hc, hb, hat, hr⟩ := h
  exact ⟨hb, hr⟩

theorem RInts.shape {I : Imm} {v : Value} {xs : List Int} (h : RInts I v xs) : ∃ ad c, v = .slice ad xs.length c := by
  obtain ⟨ad, c, xs, _, _, _, _⟩ := h
  exact ⟨ad, c, rfl⟩

/-- rows of rows of numbers -/
def RowP (I : Imm) (xs : List Value) (ps : List (List Int)) : Prop := xs.length = ps.length ∧ ∀ i (h : i < ps.length), ∃ v, xs[i]? = some v ∧ RInts I v ps[i]
theorem RowP.nil (I : Imm) : RowP I [] [] := ⟨rfl, fun i h => by simp at h⟩
theorem RowP.mono {I J : Imm} {xs : List Value} {ps : List (List Int)} (h : RowP I xs ps) (hl : I.le J) : RowP J xs ps :=
  ⟨h.1, fun i hi => let ⟨v, h1, h2⟩ := h.2 i hi; ⟨v, h1, h2.mono hl⟩⟩
theorem RowP.snoc {I : Imm} {xs : List Value} {ps : List (List Int)} {v : Value} {p : List Int} (h : RowP I xs ps) (k : RInts I v p) : RowP I (xs ++ [v]) (ps ++ [p]) := by
  refine ⟨by simp [h.1], fun i hi => ?_⟩
  by_cases hlt : i < ps.length
  · obtain ⟨u, h1, h2⟩ := h.2 i hlt
    rw [List.getElem_append_left hlt]
    exact ⟨u, by rw [List.getElem?_append_left (by rw [h.1]; exact hlt)]; exact h1, h2⟩
  · have hi' : i = ps.length := by simp at hi; omega
    subst hi'
    have e : (ps ++ [p])[ps.length] = p := by simp
    rw [e]
    exact ⟨v, by rw [← h.1]; simp, k⟩
theorem RowP.one {I : Imm} {xs : List Value} {ps : List (List Int)} (h : RowP I xs ps) : ∀ u ∈ xs, u.oneCell' = true := by
  intro u hu
  obtain ⟨i, hi, rfl⟩ := List.getElem_of_mem hu
  obtain ⟨v, h1, h2⟩ := h.2 i (by rw [← h.1]; exact hi)
  rw [List.getElem?_eq_getElem hi] at h1
  have e : xs[i] = v := by simpa using h1
  show xs[i].oneCell' = true
  rw [e]
  generalize ps[i]'(by rw [← h.1]; exact hi) = p at h2
  obtain ⟨ad, c, xs, _, _, _, _⟩ := h2
  rfl
inductive RPs (I : Imm) : Value → List (List Int) → Prop
  | mk (ad : Option Addr) (c : Nat) (xs : List Value) (ps : List (List Int)) (hc : ps.length ≤ c) (hb : ps.length ≤ 4398046511104) (hat : Cells I ad xs) (hr : RowP I xs ps) : RPs I (.slice ad ps.length c) ps
theorem RPs.of {I : Imm} {ad : Option Addr} {n c : Nat} {xs : List Value} {ps : List (List Int)} (hn : n = ps.length) (hc : n ≤ c) (hb : n ≤ 4398046511104) (hat : Cells I ad xs) (hr : RowP I xs ps) : RPs I (.slice ad n c) ps := by
  subst hn
  exact ⟨ad, c, xs, ps, hc, hb, hat, hr⟩
theorem RPs.mono {I J : Imm} {v : Value} {ps : List (List Int)} (h : RPs I v ps) (hl : I.le J) : RPs J v ps := by
  obtain ⟨ad, c, xs, ps, hc, hb, hat, hr⟩ := h
  exact ⟨ad, c, xs, ps, hc, hb, hat.mono hl, hr.mono hl⟩
theorem RPs.get {I : Imm} {ad : Option Addr} {xs : List Value} {ps : List (List Int)} (hat : Cells I ad xs) (hr : RowP I xs ps) (i : Nat) (h : i < ps.length) :
    ∃ (ed : Option Addr) (ec : Nat), At I ad (i * 1) [.slice ed ps[i].length ec] ∧ RInts I (.slice ed ps[i].length ec) ps[i] := by
  obtain ⟨v, h1, h2⟩ := hr.2 i h
  generalize he : ps[i] = p at h2
  obtain ⟨ad', c, p, _, _, _, _⟩ := h2
  refine ⟨ad', c, hat.at _ fun j u hj => ?_, ⟨ad', c, p, ‹_›, ‹_›, ‹_›, ‹_›⟩⟩
  rcases j with _ | j
  · simp at hj; subst hj; simpa using h1
  · simp at hj
end Go.Proofs.Ythbcdffldcdfoaa
/- Walks: all places of a term. -/
set_option linter.unusedVariables false
set_option linter.unusedSimpArgs false
/- short -/
namespace Go.Proofs.Ythbcdffldcdfoaa
open Go Lg

mutual
def allT : T → List (List Int)
  | .mk _ ts => [] :: allL 0 ts
def allL : Nat → List T → List (List Int)
  | _, [] => []
  | i, t :: r => (allT t).map ((i : Int) :: ·) ++ allL (i + 1) r
end
mutual
theorem allT_length : ∀ t : T, (allT t).length = t.size
  | .mk h ts => by simp [allT, T.size, allL_length 0 ts]; omega
theorem allL_length : ∀ (i : Nat) (ts : List T), (allL i ts).length = sizeL ts
  | _, [] => rfl
  | i, t :: r => by simp [allL, sizeL, allT_length t, allL_length (i + 1) r]
end
mutual
theorem allT_deep : ∀ (t : T) (p : List Int), p ∈ allT t → p.length + 1 ≤ t.size
  | .mk h ts, p, hp => by
    simp only [allT, List.mem_cons] at hp
    rcases hp with rfl | hp
    · simp [T.size]
    · have := allL_deep 0 ts p hp; simp [T.size]; omega
theorem allL_deep : ∀ (i : Nat) (ts : List T) (p : List Int), p ∈ allL i ts → p.length ≤ sizeL ts
  | _, [], p, hp => by simp [allL] at hp
  | i, t :: r, p, hp => by
    simp only [allL, List.mem_append, List.mem_map] at hp
    rcases hp with ⟨q, hq, rfl⟩ | hp
    · have := allT_deep t q hq; simp [sizeL]; omega
    · have := allL_deep (i + 1) r p hp; simp [sizeL]; omega
end
theorem allL_drop (ts : List T) (k : Nat) (h : k < ts.length) : allL k (ts.drop k) = (allT ts[k]).map ((k : Int) :: ·) ++ allL (k + 1) (ts.drop (k + 1)) := by
  rw [List.drop_eq_getElem_cons h]; simp [allL]

end Go.Proofs.Ythbcdffldcdfoaa
/- Walks: all places of a term, by the program. -/
set_option linter.unusedVariables false
set_option linter.unusedSimpArgs false
/- short -/
namespace Go.Proofs.Ythbcdffldcdfoaa
open Go Lg

end Go.Proofs.Ythbcdffldcdfoaa
/- Walks: another part put at a place, by definition. -/
set_option linter.unusedVariables false
set_option linter.unusedSimpArgs false
/- short -/
namespace Go.Proofs.Ythbcdffldcdfoaa
open Go Lg

/-- another part at a place that is there -/
def putT : T → List Int → T → T
  | _, [], u => u
  | t, x :: r, u => .mk t.head (t.args.set x.toNat (putT (t.args.getD x.toNat zeroT) r u))

theorem atT_cons {t : T} {x : Int} {r : List Int} (h : (atT t (x :: r)).isSome = true) : ∃ i : Nat, x = i ∧ ∃ hi : i < t.args.length, (atT t.args[i] r).isSome = true := by
  unfold atT at h
  by_cases hh : 0 ≤ x ∧ x.toNat < t.args.length
  · rw [dif_pos hh] at h
    obtain ⟨i, rfl⟩ := Int.eq_ofNat_of_zero_le hh.1
    exact ⟨i, rfl, hh.2, h⟩
  · rw [dif_neg hh] at h; cases h

def PutR (t : T) (p : List Int) (u : T) (v : Value) (I : Imm) : Prop :=
  ∃ x, v = .tuple #[x, .int .i64 (if (atT t p).isSome then 0 else 6)] ∧ RepT I x (if (atT t p).isSome then putT t p u else zeroT)

end Go.Proofs.Ythbcdffldcdfoaa
/- Walks: another part put at a place, by the program. -/
set_option linter.unusedVariables false
set_option linter.unusedSimpArgs false
namespace Go.Proofs.Ythbcdffldcdfoaa
open Go Lg

/-! ### rows and boxes -/
theorem Lg.OpsJ.freezeBox {C : Ctx} {Q : Exit → Act → World → Prop} {σ : Env} {ds : List Nat} {I : Imm} {δ δ' : List Ent} {ops : Array Oper} {rest : List Oper} {b : Nat} {e : TypeId} {cs : List Value} (hd : Del δ (.box b e cs) δ')
    (h : ∀ I', I.le I' → I' b = some (.cells cs.toArray e (0, 0)) → OpsJ C ops Q rest σ ds I' δ') : OpsJ C ops Q rest σ ds I δ := by
  intro a w he hs ht
  have h1 := hs.perm hd.perm
  have t1 := ht.permR hd.perm
  obtain ⟨s2, t2, hle⟩ := h1.freeze (b := b) rfl (h1.ents _ (List.mem_cons_self ..))
  exact h _ hle (by simp [Imm.ins]) a w he s2 (t1.trans t2)
theorem Lg.OpsJ.rowBox {C : Ctx} {Q : Exit → Act → World → Prop} {σ : Env} {ds : List Nat} {I : Imm} {δ δ' : List Ent} {ops : Array Oper} {rest : List Oper} {v : Value} {e : TypeId} {size n : Nat} {xs : List Value} (hd : Del δ (.row v e size n xs) δ') (hn : 0 < n)
    (h : ∀ g cap cs, v = .slice (some ⟨g, 0, none⟩) n cap → n ≤ cap → xs.length = n * size → cs.take (n * size) = xs → OpsJ C ops Q rest σ ds I (.box g e cs :: δ')) : OpsJ C ops Q rest σ ds I δ := by
  intro a w he hs ht
  have h1 := hs.perm hd.perm
  have t1 := ht.permR hd.perm
  obtain ⟨hl, hx⟩ : w.ownsRow 0 e size v n xs := h1.ents _ (List.mem_cons_self ..)
  rcases hx with ⟨rfl, rfl⟩ | ⟨g, cap, cur, rfl, _, hh, hnc, _, hcs, htk⟩
  · omega
  · have hb : blks (.row (.slice (some ⟨g, 0, none⟩) n cap) e size n xs :: δ') = blks (.box g e cur.toList :: δ') := rfl
    refine h g cap cur.toList rfl hnc hl htk a w he ⟨h1.imm, fun y hy => ?_, hb ▸ h1.nodup, hb ▸ h1.apart⟩ ⟨t1.os, t1.tape, t1.output, t1.size, t1.same, t1.imm, t1.freshI, hb ▸ t1.freshD⟩
    rcases List.mem_cons.1 hy with rfl | hy
    · simpa [Ent.holds] using hh
    · exact h1.ents y (List.mem_cons_of_mem _ hy)

theorem stL_one {cs : List Value} {o : Nat} {x v : Value} (h : cs[o]? = some x) : stL cs o [v] = some (cs.set o v) := by
  induction cs generalizing o with
  | nil => simp at h
  | cons c cs ih =>
    cases o with
    | zero => cases cs <;> simp [stL]
    | succ o => simp at h; simp [stL, ih h]
theorem stL_two {cs : List Value} {o : Nat} {x y u v : Value} (h : cs[o]? = some x) (k : cs[o + 1]? = some y) : stL cs o [u, v] = some ((cs.set o u).set (o + 1) v) := by
  induction cs generalizing o with
  | nil => simp at h
  | cons c cs ih =>
    cases o with
    | zero =>
      cases cs with
      | nil => simp at k
      | cons c2 cs => cases cs <;> simp [stL]
    | succ o => simp at h k; simp [stL, ih h k]
theorem ld_one {cs : List Value} {o : Nat} {x : Value} (h : cs[o]? = some x) : ld false 1 (cs.drop o) = some x := by
  obtain ⟨hl, rfl⟩ := List.getElem?_eq_some_iff.1 h
  rw [List.drop_eq_getElem_cons hl]; rfl

/-! ### places, from behind -/
theorem atT_c (t : T) (x : Int) (r : List Int) : atT t (x :: r) = if h : 0 ≤ x ∧ x.toNat < t.args.length then atT (t.args[x.toNat]'h.2) r else none := by simp only [atT]
theorem atT_app : ∀ (p q : List Int) (t : T), atT t (p ++ q) = (atT t p).bind (atT · q)
  | [], q, t => by simp [atT]
  | x :: p, q, t => by
    rw [List.cons_append, atT_c, atT_c]
    by_cases hh : 0 ≤ x ∧ x.toNat < t.args.length
    · rw [dif_pos hh, dif_pos hh, atT_app p q]
    · rw [dif_neg hh, dif_neg hh]; rfl
theorem atT_one {t : T} {i : Nat} (h : i < t.args.length) : atT t [(i : Int)] = some t.args[i] := by
  simp [atT, h]
theorem putT_snoc : ∀ (q : List Int) (t u w : T) (i : Nat), atT t q = some u → i < u.args.length → putT t (q ++ [(i : Int)]) w = putT t q (.mk u.head (u.args.set i w))
  | [], t, u, w, i, h, hi => by
    simp [atT] at h; subst h
    simp [putT]
  | x :: q, t, u, w, i, h, hi => by
    rw [List.cons_append]
    have h' : (atT t (x :: q)).isSome = true := by rw [h]; rfl
    obtain ⟨j, rfl, hj, _⟩ := atT_cons h'
    simp only [atT, Int.toNat_natCast] at h
    rw [dif_pos ⟨by omega, hj⟩] at h
    simp only [putT, Int.toNat_natCast]
    have e : t.args.getD j zeroT = t.args[j] := by simp [hj]
    rw [e, putT_snoc q _ u w i h hi]

/-- What is to be put into the cells at (b, off) stands at q. -/
def Hole (t : T) (q : List Int) (b0 b off : Nat) (cs : List Value) (I : Imm) : Prop :=
  ∀ (J : Imm) (w : T) (wd : Option Addr) (wc : Nat), I.le J → J b = some (.cells ((cs.set off (.int .i64 w.head)).set (off + 1) (.slice wd w.args.length wc)).toArray 108 (0, 0)) → RepT J (.agg #[.int .i64 w.head, .slice wd w.args.length wc]) w →
    ∃ v0 v1, J b0 = some (.cells #[v0, v1] 108 (0, 0)) ∧ RepT J (.agg #[v0, v1]) (putT t q w)
theorem Hole.mono {t : T} {q : List Int} {b0 b off : Nat} {cs : List Value} {I J : Imm} (h : Hole t q b0 b off cs I) (hl : I.le J) : Hole t q b0 b off cs J :=
  fun K w wd wc hk hb hr => h K w wd wc (Imm.le_trans hl hk) hb hr
theorem Hole.start {t : T} {b : Nat} {x y : Value} {I : Imm} : Hole t [] b b 0 [x, y] I :=
  fun J w wd wc _ hb hr => ⟨_, _, hb, by simpa [putT] using hr⟩

theorem RowT.set {I : Imm} {xs : List Value} {ts : List T} {w : T} {wd : Option Addr} {wc i : Nat} (h : RowT I xs ts) (hr : RepT I (.agg #[.int .i64 w.head, .slice wd w.args.length wc]) w) (hi : i < ts.length) :
    RowT I ((xs.set (i * 2) (.int .i64 w.head)).set (i * 2 + 1) (.slice wd w.args.length wc)) (ts.set i w) := by
  refine ⟨by simp [h.1], fun j hj => ?_⟩
  have hj' : j < ts.length := by simpa using hj
  obtain ⟨s, h1, h2, h3⟩ := h.2 j hj'
  by_cases e : i = j
  · subst e
    have e1 : (ts.set i w)[i] = w := by simp
    rw [e1]
    exact ⟨(wd, wc), by rw [List.getElem?_set_ne (by omega), List.getElem?_set_self (by rw [h.1]; omega)], by rw [List.getElem?_set_self (by simp [h.1]; omega)], hr⟩
  · have e1 : (ts.set i w)[j] = ts[j] := by simp [List.getElem_set_ne e]
    rw [e1]
    exact ⟨s, by rw [List.getElem?_set_ne (by omega), List.getElem?_set_ne (by omega)]; exact h1, by rw [List.getElem?_set_ne (by omega), List.getElem?_set_ne (by omega)]; exact h2, h3⟩

theorem cells_of {J : Imm} {g : Nat} {e : TypeId} {cs : List Value} (h : J g = some (.cells cs.toArray e (0, 0))) (n : Nat) : Cells J (some ⟨g, 0, none⟩) (cs.take n) := fun j v hj => by
  have hadd : (⟨g, 0, none⟩ : Addr).add j = ⟨g, j, none⟩ := by rw [add_plain]; simp
  simp only [Option.map_some, Imm.cellO, Imm.cell, hadd, h]
  rw [List.getElem?_take] at hj
  split at hj
  · simpa using hj
  · cases hj

theorem Hole.step {t u : T} {q : List Int} {b0 b off g n cap i : Nat} {cs cs3 xs : List Value} {I J : Imm} (h : Hole t q b0 b off cs I) (hl : I.le J) (hat : atT t q = some u) (hn : u.args.length = n)
    (hb : J b = some (.cells (cs.set (off + 1) (.slice (some ⟨g, 0, none⟩) n cap)).toArray 108 (0, 0))) (hc0 : cs[off]? = some (.int .i64 u.head)) (hr : InR u.head) (hnc : n ≤ cap) (hnb : n ≤ 4398046511104)
    (htk : cs3.take (n * 2) = xs) (hrow : RowT J xs u.args) (hi : i < n) : Hole t (q ++ [(i : Int)]) b0 g (i * 2) cs3 J := by
  intro K w wd wc hk hg hw
  have hset : cs.set off (.int .i64 u.head) = cs := by
    obtain ⟨hlt, he⟩ := List.getElem?_eq_some_iff.1 hc0
    rw [← he, List.set_getElem_self]
  have hcells := cells_of hg (n * 2)
  rw [List.take_set, List.take_set, htk] at hcells
  have hrow' := (hrow.mono hk).set hw (i := i) (by omega)
  have hlen : (T.mk u.head (u.args.set i w)).args.length = n := by
    show (u.args.set i w).length = n
    simp [hn]
  obtain ⟨v0, v1, h1, h2⟩ := h K (.mk u.head (u.args.set i w)) (some ⟨g, 0, none⟩) cap (Imm.le_trans hl hk) (by
    rw [hlen]
    show K b = some (.cells ((cs.set off (.int .i64 u.head)).set (off + 1) _).toArray _ _)
    rw [hset]
    exact hk _ _ hb) (RowT.rep (h := u.head) (c := cap) (ts := u.args.set i w) hcells hrow' hr (by simp [hn]; exact hnc) (by simp [hn]; exact hnb))
  refine ⟨v0, v1, h1, ?_⟩
  rw [putT_snoc q t u w i hat (by omega)]
  exact h2
end Go.Proofs.Ythbcdffldcdfoaa
/- Heaps of items: plain facts. No condition. -/
set_option linter.unusedVariables false
set_option linter.unusedSimpArgs false
set_option linter.unnecessarySimpa false
namespace Go.Proofs.Ythbcdffldcdfoaa
open Go Lg

abbrev It := Int × Int
abbrev itC (x : It) : List Value := [.int .i64 x.1, .int .i64 x.2]
def itL (xs : List It) : List Value := xs.flatMap itC
theorem itL_len (xs : List It) : (itL xs).length = xs.length * 2 := by
  induction xs with
  | nil => rfl
  | cons x r ih => simp only [itL, List.flatMap_cons, List.length_append, List.length_cons, List.length_nil] at ih ⊢; omega
theorem itL_snoc (xs : List It) (x : It) : itL (xs ++ [x]) = itL xs ++ itC x := by simp [itL]
theorem itL_at : ∀ (xs : List It) (i : Nat) (h : i < xs.length), (itL xs)[i * 2]? = some (.int .i64 xs[i].1) ∧ (itL xs)[i * 2 + 1]? = some (.int .i64 xs[i].2)
  | x :: r, 0, _ => ⟨rfl, rfl⟩
  | x :: r, i + 1, h => by
    have ih := itL_at r i (by simpa using h)
    have e1 : (itL (x :: r))[(i + 1) * 2]? = (itL r)[i * 2]? := by rw [show (i + 1) * 2 = i * 2 + 1 + 1 by omega]; rfl
    have e2 : (itL (x :: r))[(i + 1) * 2 + 1]? = (itL r)[i * 2 + 1]? := by rw [show (i + 1) * 2 + 1 = i * 2 + 1 + 1 + 1 by omega]; rfl
    rw [e1, e2]; exact ih
theorem itL_set : ∀ (xs : List It) (i : Nat) (y : It), i < xs.length → itL (xs.set i y) = ((itL xs).set (i * 2) (.int .i64 y.1)).set (i * 2 + 1) (.int .i64 y.2)
  | x :: r, 0, y, _ => rfl
  | x :: r, i + 1, y, h => by
    have ih := itL_set r i y (by simpa using h)
    rw [List.set_cons_succ, show (i + 1) * 2 = i * 2 + 1 + 1 by omega]
    show itC x ++ itL (r.set i y) = ((itC x ++ itL r).set (i * 2 + 1 + 1) _).set (i * 2 + 1 + 1 + 1) _
    rw [ih]; rfl
theorem itL_drop (xs : List It) (i : Nat) (h : i < xs.length) : (itL xs).drop (i * 2) = .int .i64 xs[i].1 :: .int .i64 xs[i].2 :: (itL xs).drop (i * 2 + 2) := by
  obtain ⟨h1, h2⟩ := itL_at xs i h
  obtain ⟨a1, b1⟩ := List.getElem?_eq_some_iff.1 h1
  obtain ⟨a2, b2⟩ := List.getElem?_eq_some_iff.1 h2
  rw [List.drop_eq_getElem_cons a1, b1, List.drop_eq_getElem_cons a2, b2]
theorem itL_take (xs : List It) (n : Nat) : itL (xs.take n) = (itL xs).take (n * 2) := by
  induction xs generalizing n with
  | nil => simp [itL]
  | cons x r ih =>
    cases n with
    | zero => simp [itL]
    | succ n => rw [List.take_succ_cons, show (n + 1) * 2 = n * 2 + 1 + 1 by omega]; show itC x ++ itL (r.take n) = _; rw [ih]; rfl
def leI (a b : It) : Prop := a.1 < b.1 ∨ (a.1 = b.1 ∧ a.2 ≤ b.2)
def ltB (a b : It) : Bool := decide (a.1 < b.1) || (decide (a.1 = b.1) && decide (a.2 < b.2))
theorem ltB_iff {a b : It} : ltB a b = true ↔ a.1 < b.1 ∨ (a.1 = b.1 ∧ a.2 < b.2) := by simp [ltB]
theorem leI_of {a b : It} (h : ltB a b = false) : leI b a := by
  have : ¬ (a.1 < b.1 ∨ (a.1 = b.1 ∧ a.2 < b.2)) := fun q => by rw [ltB_iff.2 q] at h; cases h
  unfold leI; omega
theorem leI_lt {a b : It} (h : ltB a b = true) : leI a b := by have := ltB_iff.1 h; unfold leI; omega
theorem leI_trans {a b c : It} (h : leI a b) (k : leI b c) : leI a c := by unfold leI at *; omega
theorem leI_refl (a : It) : leI a a := by unfold leI; omega
theorem leI_antisymm {a b : It} (h : leI a b) (k : leI b a) : a = b := by
  unfold leI at *; ext <;> omega
def gt (xs : List It) (j : Nat) : It := xs.getD j (0, 0)
theorem gt_at {xs : List It} {j : Nat} (h : j < xs.length) : gt xs j = xs[j] := by simp [gt, List.getD_eq_getElem?_getD, List.getElem?_eq_getElem h]
def swapL (xs : List It) (i k : Nat) : List It := (xs.set i (gt xs k)).set k (gt xs i)
theorem swapL_len (xs : List It) (i k : Nat) : (swapL xs i k).length = xs.length := by simp [swapL]
theorem gt_set {xs : List It} {i : Nat} (h : i < xs.length) (y : It) (j : Nat) : gt (xs.set i y) j = if i = j then y else gt xs j := by
  unfold gt
  rw [List.getD_eq_getElem?_getD, List.getD_eq_getElem?_getD, List.getElem?_set]
  by_cases e : i = j
  · subst e; simp [h]
  · simp [e]
theorem gt_swap {xs : List It} {i k : Nat} (hi : i < xs.length) (hk : k < xs.length) (j : Nat) : gt (swapL xs i k) j = if k = j then gt xs i else if i = j then gt xs k else gt xs j := by
  unfold swapL
  rw [gt_set (by simpa using hk), gt_set hi]
theorem swapL_perm {xs : List It} {i k : Nat} (hi : i < xs.length) (hk : k < xs.length) : (swapL xs i k).Perm xs := by
  rw [List.perm_iff_count]
  intro z
  unfold swapL
  rw [List.count_set (by simpa using hk), List.count_set hi]
  have e1 : (xs.set i (gt xs k))[k]'(by simpa using hk) = gt xs k := by
    have h1 := gt_at (xs := xs.set i (gt xs k)) (j := k) (by simpa using hk)
    rw [← h1, gt_set hi]; split
    · rfl
    · rfl
  rw [e1, ← gt_at hi]
  have c1 : (gt xs i == z) = true → 0 < xs.count z := fun h => by
    have : gt xs i = z := by simpa using h
    rw [← this, gt_at hi]; exact List.count_pos_iff.2 (List.getElem_mem hi)
  cases h1 : (gt xs i == z) <;> cases h2 : (gt xs k == z) <;> simp <;> (try (have := c1 h1; omega))
def IsHeap (xs : List It) : Prop := ∀ j, 0 < j → j < xs.length → leI (gt xs ((j - 1) / 2)) (gt xs j)
/-- only what stands below one place may be less -/
def DownInv (xs : List It) (i : Nat) : Prop := (∀ j, 0 < j → j < xs.length → (j - 1) / 2 ≠ i → leI (gt xs ((j - 1) / 2)) (gt xs j)) ∧ ∀ j, 0 < j → j < xs.length → (j - 1) / 2 = i → 0 < i → leI (gt xs ((i - 1) / 2)) (gt xs j)
/-- one place may be wrong, and, if it is the first one, what stands below it -/
def UpInv (xs : List It) (i i0 : Nat) : Prop := (∀ j, 0 < j → j < xs.length → j ≠ i → ((j - 1) / 2 ≠ i ∨ i ≠ i0) → leI (gt xs ((j - 1) / 2)) (gt xs j)) ∧ ∀ j, 0 < j → j < xs.length → (j - 1) / 2 = i → 0 < i → leI (gt xs ((i - 1) / 2)) (gt xs j)
theorem IsHeap.down {xs : List It} (h : IsHeap xs) (i : Nat) : DownInv xs i :=
  ⟨fun j h0 h1 _ => h j h0 h1, fun j h0 h1 h2 h3 => leI_trans (h i h3 (by omega)) (h2 ▸ h j h0 h1)⟩
theorem up_end {xs : List It} {i i0 : Nat} (h : UpInv xs i i0) (he : i = 0 ∨ leI (gt xs ((i - 1) / 2)) (gt xs i)) : DownInv xs i0 := by
  by_cases e : i = i0
  · subst e
    refine ⟨fun j h0 h1 h2 => ?_, h.2⟩
    by_cases hj : j = i
    · subst hj
      rcases he with he | he
      · omega
      · exact he
    · exact h.1 j h0 h1 hj (.inl h2)
  · have hh : IsHeap xs := fun j h0 h1 => by
      by_cases hj : j = i
      · subst hj
        rcases he with he | he
        · omega
        · exact he
      · exact h.1 j h0 h1 hj (.inr e)
    exact hh.down i0
theorem up_step {xs : List It} {i i0 : Nat} (h : UpInv xs i i0) (hi : 0 < i) (hl : i < xs.length) (hle : i ≤ i0) (hlt : leI (gt xs i) (gt xs ((i - 1) / 2))) : UpInv (swapL xs i ((i - 1) / 2)) ((i - 1) / 2) i0 := by
  obtain ⟨p, hp⟩ : ∃ p, p = (i - 1) / 2 := ⟨_, rfl⟩
  rw [← hp] at hlt ⊢
  have hpi : p < i := by omega
  have hpl : p < xs.length := by omega
  have G := gt_swap hl hpl
  have gi : gt (swapL xs i p) i = gt xs p := by rw [G, if_neg (by omega), if_pos rfl]
  have gp : gt (swapL xs i p) p = gt xs i := by rw [G, if_pos rfl]
  have go : ∀ j, j ≠ i → j ≠ p → gt (swapL xs i p) j = gt xs j := fun j a b => by rw [G, if_neg (fun e => b e.symm), if_neg (fun e => a e.symm)]
  constructor
  · intro j h0 h1 hj _
    rw [swapL_len] at h1
    by_cases ji : j = i
    · subst ji; rw [gi, ← hp, gp]; exact hlt
    · rw [go j ji hj]
      by_cases q1 : (j - 1) / 2 = i
      · rw [q1, gi, hp]; exact h.2 j h0 h1 q1 hi
      · by_cases q2 : (j - 1) / 2 = p
        · rw [q2, gp]; exact leI_trans hlt (q2 ▸ h.1 j h0 h1 ji (.inl q1))
        · rw [go _ q1 q2]; exact h.1 j h0 h1 ji (.inl q1)
  · intro j h0 h1 hj hp0
    rw [swapL_len] at h1
    have e1 : (p - 1) / 2 ≠ i := by omega
    have e2 : (p - 1) / 2 ≠ p := by omega
    rw [go _ e1 e2]
    have hpp : leI (gt xs ((p - 1) / 2)) (gt xs p) := h.1 p hp0 hpl (by omega) (.inl (by omega))
    by_cases ji : j = i
    · subst ji; rw [gi]; exact hpp
    · have jp : j ≠ p := by omega
      rw [go j ji jp]
      exact leI_trans hpp (hj ▸ h.1 j h0 h1 ji (.inl (by omega)))
theorem down_end {xs : List It} {i : Nat} (h : DownInv xs i) (he : ∀ j, 0 < j → j < xs.length → (j - 1) / 2 = i → leI (gt xs i) (gt xs j)) : IsHeap xs := fun j h0 h1 => by
  by_cases q : (j - 1) / 2 = i
  · rw [q]; exact he j h0 h1 q
  · exact h.1 j h0 h1 q
theorem down_step {xs : List It} {i c : Nat} (h : DownInv xs i) (hc : (c - 1) / 2 = i) (hc0 : 0 < c) (hcl : c < xs.length) (hlt : leI (gt xs c) (gt xs i)) (hmin : ∀ j, 0 < j → j < xs.length → (j - 1) / 2 = i → leI (gt xs c) (gt xs j)) : DownInv (swapL xs i c) c := by
  have hil : i < xs.length := by omega
  have hic : i < c := by omega
  have G := gt_swap hil hcl
  have gi : gt (swapL xs i c) i = gt xs c := by rw [G, if_neg (by omega), if_pos rfl]
  have gc : gt (swapL xs i c) c = gt xs i := by rw [G, if_pos rfl]
  have go : ∀ j, j ≠ i → j ≠ c → gt (swapL xs i c) j = gt xs j := fun j a b => by rw [G, if_neg (fun e => b e.symm), if_neg (fun e => a e.symm)]
  constructor
  · intro j h0 h1 hj
    rw [swapL_len] at h1
    by_cases jc : j = c
    · subst jc; rw [gc, hc, gi]; exact hlt
    · by_cases ji : j = i
      · subst ji
        have e1 : (j - 1) / 2 ≠ j := by omega
        rw [gi, go _ e1 hj]
        exact h.2 c hc0 hcl hc (by omega)
      · rw [go j ji jc]
        by_cases q1 : (j - 1) / 2 = i
        · rw [q1, gi]; exact hmin j h0 h1 q1
        · rw [go _ q1 hj]; exact h.1 j h0 h1 q1
  · intro j h0 h1 hj _
    rw [swapL_len] at h1
    have ji : j ≠ i := by omega
    have jc : j ≠ c := by omega
    rw [hc, gi, go j ji jc]
    exact hj ▸ h.1 j h0 h1 (by omega)
theorem heap_min {xs : List It} (h : IsHeap xs) : ∀ (n j : Nat), j ≤ n → j < xs.length → leI (gt xs 0) (gt xs j) := by
  intro n
  induction n with
  | zero => intro j hj _; rw [show j = 0 by omega]; exact leI_refl _
  | succ n ih =>
    intro j hj hl
    by_cases h0 : j = 0
    · rw [h0]; exact leI_refl _
    · exact leI_trans (ih ((j - 1) / 2) (by omega) (by omega)) (h j (by omega) hl)
/-- the map tells where each stands -/
def AtOK (xs : List It) (mp : Mp) : Prop := (∀ j, j < xs.length → mget mp (gt xs j).2 = some (.int .i64 j)) ∧ ∀ id, (∀ j, j < xs.length → (gt xs j).2 ≠ id) → mget mp id = none
theorem AtOK.inj {xs : List It} {mp : Mp} (h : AtOK xs mp) {i j : Nat} (hi : i < xs.length) (hj : j < xs.length) (e : (gt xs i).2 = (gt xs j).2) : i = j := by
  have h1 := h.1 i hi
  rw [e, h.1 j hj] at h1
  simp at h1; omega
theorem AtOK.swap {xs : List It} {mp mp' : Mp} {i k : Nat} (h : AtOK xs mp) (hi : i < xs.length) (hk : k < xs.length)
    (hm : ∀ q, mget mp' q = if (gt xs i).2 = q then some (.int .i64 k) else if (gt xs k).2 = q then some (.int .i64 i) else mget mp q) : AtOK (swapL xs i k) mp' := by
  have G := gt_swap hi hk
  constructor
  · intro j hj
    rw [swapL_len] at hj
    rw [G, hm]
    by_cases jk : k = j
    · rw [if_pos jk, if_pos rfl, jk]
    · rw [if_neg jk]
      by_cases ji : i = j
      · rw [if_pos ji]
        by_cases e : (gt xs i).2 = (gt xs k).2
        · have := h.inj hi hk e; omega
        · rw [if_neg e, if_pos rfl, ji]
      · rw [if_neg ji, if_neg (fun e => ji (h.inj hi hj e)), if_neg (fun e => jk (h.inj hk hj e))]
        exact h.1 j hj
  · intro id hid
    rw [swapL_len] at hid
    have h1 := hid i hi
    have h2 := hid k hk
    rw [G] at h1 h2
    rw [if_pos rfl] at h2
    have h3 : (gt xs k).2 ≠ id := by
      by_cases e : k = i
      · subst e; exact h2
      · rw [if_neg e, if_pos rfl] at h1; exact h1
    rw [hm, if_neg h2, if_neg h3]
    refine h.2 id fun j hj => ?_
    have := hid j hj
    rw [G] at this
    by_cases jk : k = j
    · subst jk; exact h3
    · rw [if_neg jk] at this
      by_cases ji : i = j
      · subst ji; exact h2
      · rw [if_neg ji] at this; exact this
end Go.Proofs.Ythbcdffldcdfoaa
/- Walks: items compared, and exchanged. -/
set_option linter.unusedVariables false
set_option linter.unusedSimpArgs false
set_option linter.unnecessarySimpa false
/- short -/
namespace Go.Proofs.Ythbcdffldcdfoaa
open Go Lg

theorem Lg.CodeJ.rowSome {C : Ctx} {Q : Exit → Act → World → Prop} {σ : Env} {ds : List Nat} {I : Imm} {δ : List Ent} {cd : Code} {A : Option Addr} {c n size : Nat} {e : TypeId} {xs : List Value} (hd : Has δ (.row (.slice A n c) e size n xs)) (hn : 0 < n)
    (h : A.isSome = true → n ≤ c → CodeJ C cd Q σ ds I δ) : CodeJ C cd Q σ ds I δ := by
  intro a w he hs ht
  have hr : w.ownsRow 0 e size (.slice A n c) n xs := hs.ents _ hd.mem
  rcases hr.2 with ⟨h1, h2⟩ | ⟨g, cap, cur, h1, _, _, h3, _⟩
  · omega
  · cases h1
    exact h rfl h3 a w he hs ht
abbrev HeapE (hb mb : Nat) (A : Option Addr) (c : Nat) (xs : List It) (mp : Mp) : List Ent := [.box hb 97 [.slice A xs.length c, .map (some mb)], .row (.slice A xs.length c) 57 2 xs.length (itL xs), .map mb mp]
theorem ld_it {xs : List It} {i : Nat} (h : i < xs.length) : ld true 2 ((itL xs).drop (i * 2)) = some (.agg #[.int .i64 (gt xs i).1, .int .i64 (gt xs i).2]) := by rw [itL_drop xs i h, gt_at h]; rfl
theorem ld_id {xs : List It} {i : Nat} (h : i < xs.length) : ld false 1 ((itL xs).drop (i * 2 + 1)) = some (.int .i64 (gt xs i).2) := ld_at (by rw [(itL_at xs i h).2, gt_at h])
theorem stL_it {xs : List It} {i : Nat} (h : i < xs.length) (y : It) : stL (itL xs) (i * 2) [.int .i64 y.1, .int .i64 y.2] = some (itL (xs.set i y)) := by
  obtain ⟨h1, h2⟩ := itL_at xs i h
  rw [itL_set xs i y h]; exact stL_two h1 h2
theorem or_ltB (a b : It) : decide (orI [ordI a.1 b.1, ordI a.2 b.2] < 0) = ltB a b := by
  have h : orI [ordI a.1 b.1, ordI a.2 b.2] < 0 ↔ (a.1 < b.1 ∨ (a.1 = b.1 ∧ a.2 < b.2)) := by
    simp only [orI, ordI]
    by_cases h1 : a.1 < b.1
    · simp [h1]
    · by_cases h2 : b.1 < a.1
      · simp [h1, h2]; omega
      · have e : a.1 = b.1 := by omega
        by_cases h3 : a.2 < b.2
        · simp [e, h3]
        · by_cases h4 : b.2 < a.2
          · simp [e, h3, h4]
          · simp [e, h3, h4]
  rw [Bool.eq_iff_iff, ltB_iff, decide_eq_true_eq, h]
theorem ordI_inR (a b : Int) : InR (ordI a b) := by have := ordI_range a b; unfold InR; omega
theorem less_does {I : Imm} {hb mb c : Nat} {A : Option Addr} {xs : List It} {mp : Mp} {i k : Nat} (hi : i < xs.length) (hk : k < xs.length) (hl : xs.length ≤ 1000000000) :
    Does Try.prog 63 [.pointer (some ⟨hb, 0, none⟩), .int .i64 i, .int .i64 k] I (HeapE hb mb A c xs mp) (fun v _ δ' => v = .bool (ltB (gt xs i) (gt xs k)) ∧ δ' = HeapE hb mb A c xs mp) := by
  refine Does.intro Try.func63 rfl Try.ntmps63 rfl fun w0 => ?_
  refine code_seq ?_
  refine code_region ?_
  refine op_v (v_assign rfl) rfl ?_
  refine ops_nil ?_
  refine post_next ?_
  refine code_seq_meet (fun σ' I' δ' => ∃ b7' b8' : Nat, σ' = [(7, .pointer (some ⟨b7', 0, none⟩)), (8, .pointer (some ⟨b8', 0, none⟩))] ∧ I = I' ∧ δ' = .box b8' 57 [.int .i64 (gt xs k).1, .int .i64 (gt xs k).2] :: .box b7' 57 [.int .i64 (gt xs i).1, .int .i64 (gt xs i).2] :: HeapE hb mb A c xs mp) ?_ ?_
  · refine CodeJ.rowSome (Has.there Has.here) (by omega) (fun hA hcr => ?_)
    refine code_draw (.fl 0 (.fl 1 (.fl 2 (.fl 3 (.fl 4 (.fl 5 (.fl 6 (.fl 7 (.fl 8 (.fl 9 (.fl 10 (.fl 11 (.fl 12 (.fl 13 (.two 14 15 (.ef 15 (.ef 16 (.ef 17 .done))) (.ef 14 (.ef 16 (.ef 17 .done)))))))))))))))))) (fun _ => HeapE hb mb A c xs mp) mixed (by kernel_rfl) (by kernel_rfl) (fun _ => (List.Sublist.refl _)) ?_
    refine e_fl rfl rfl (fun hs_ => PF.mk rfl (v_move rfl) hs_) ?_
    refine e_fl rfl rfl (fun hs_ => PF.mk rfl (v_nilCheck rfl) hs_) ?_
    first | refine e_fl rfl rfl (fun hs_ => PF.mk rfl (v_fieldB 0 Try.underlying97 rfl rfl fz51 rfl) hs_) ?_ | refine e_fl rfl rfl (fun hs_ => PF.mk rfl (v_fieldI 0 Try.underlying97 rfl rfl fz51 rfl (by assumption)) hs_) ?_ | refine e_fl rfl rfl (fun hs_ => PF.mk rfl (v_field Try.underlying97 rfl fz51 rfl rfl) hs_) ?_
    refine e_fl rfl rfl (fun hs_ => PF.mk rfl (v_loadA ty51 rfl rfl) hs_) ?_
    refine e_fl rfl rfl (fun hs_ => PF.mk rfl (v_move rfl) hs_) ?_
    first | refine e_fl rfl rfl (fun hs_ => PF.mk rfl (v_indexA Try.underlying51 sz57 rfl rfl) hs_) ?_ | refine e_fl rfl rfl (fun hs_ => PF.mk rfl (v_indexIA Try.underlying51 sz57 rfl rfl) hs_) ?_
    refine e_fl rfl rfl (fun hs_ => PF.mk rfl (v_loadRow ty57 rfl (Has.there Has.here) hA (ld_it hi)) hs_) ?_
    refine e_fl rfl rfl (fun hs_ => PF.mk rfl (v_move rfl) hs_) ?_
    refine e_fl rfl rfl (fun hs_ => PF.mk rfl (v_nilCheck rfl) hs_) ?_
    first | refine e_fl rfl rfl (fun hs_ => PF.mk rfl (v_fieldB 0 Try.underlying97 rfl rfl fz51 rfl) hs_) ?_ | refine e_fl rfl rfl (fun hs_ => PF.mk rfl (v_fieldI 0 Try.underlying97 rfl rfl fz51 rfl (by assumption)) hs_) ?_ | refine e_fl rfl rfl (fun hs_ => PF.mk rfl (v_field Try.underlying97 rfl fz51 rfl rfl) hs_) ?_
    refine e_fl rfl rfl (fun hs_ => PF.mk rfl (v_loadA ty51 rfl rfl) hs_) ?_
    refine e_fl rfl rfl (fun hs_ => PF.mk rfl (v_move rfl) hs_) ?_
    first | refine e_fl rfl rfl (fun hs_ => PF.mk rfl (v_indexA Try.underlying51 sz57 rfl rfl) hs_) ?_ | refine e_fl rfl rfl (fun hs_ => PF.mk rfl (v_indexIA Try.underlying51 sz57 rfl rfl) hs_) ?_
    refine e_fl rfl rfl (fun hs_ => PF.mk rfl (v_loadRow ty57 rfl (by repeat (first | exact Has.here | apply Has.there)) hA (ld_it hk)) hs_) ?_
    refine e_two rfl (by intro cs b hc; cases hc) (by intro c hc; cases hc) rfl (by intro cs b hc; cases hc) (by intro c hc; cases hc) ?_ ?_
    · refine o_alloc z57 rfl rfl (fun b7 => ?_)
      refine ops_nil ?_
      refine e_next rfl side_allA ?_
      refine e_eff rfl (by intro cs b hc; cases hc) (by intro c hc; cases hc) ?_
      refine o_alloc z57 rfl rfl (fun b8 => ?_)
      refine ops_nil ?_
      refine e_next rfl side_allA ?_
      refine e_eff rfl (by intro cs b hc; cases hc) (by intro c hc; cases hc) ?_
      refine o_store ty57 rfl rfl rfl rfl rfl (by repeat (first | exact Swap.here | apply Swap.there)) rfl ?_
      refine ops_nil ?_
      refine e_next_ side_allA ?_
      refine e_eff rfl (by intro cs b hc; cases hc) (by intro c hc; cases hc) ?_
      refine o_store ty57 rfl rfl rfl rfl rfl (by repeat (first | exact Swap.here | apply Swap.there)) rfl ?_
      refine ops_nil ?_
      refine e_next_ (side_nil (by kernel_rfl)) ?_
      refine e_done ?_
      first | exact post_meet _ ⟨b7, b8, rfl, rfl, rfl⟩ ⟨rfl, rfl, trivial⟩ | (refine PostJ.view (View.perm (List.Perm.swap _ _ _)) ?_; exact post_meet _ ⟨b7, b8, rfl, rfl, rfl⟩ ⟨rfl, rfl, trivial⟩)
    · refine o_alloc z57 rfl rfl (fun b8 => ?_)
      refine ops_nil ?_
      refine e_next rfl side_allA ?_
      refine e_eff rfl (by intro cs b hc; cases hc) (by intro c hc; cases hc) ?_
      refine o_alloc z57 rfl rfl (fun b7 => ?_)
      refine ops_nil ?_
      refine e_next rfl side_allA ?_
      refine e_eff rfl (by intro cs b hc; cases hc) (by intro c hc; cases hc) ?_
      refine o_store ty57 rfl rfl rfl rfl rfl (by repeat (first | exact Swap.here | apply Swap.there)) rfl ?_
      refine ops_nil ?_
      refine e_next_ side_allA ?_
      refine e_eff rfl (by intro cs b hc; cases hc) (by intro c hc; cases hc) ?_
      refine o_store ty57 rfl rfl rfl rfl rfl (by repeat (first | exact Swap.here | apply Swap.there)) rfl ?_
      refine ops_nil ?_
      refine e_next_ (side_nil (by kernel_rfl)) ?_
      refine e_done ?_
      first | exact post_meet _ ⟨b7, b8, rfl, rfl, rfl⟩ ⟨rfl, rfl, trivial⟩ | (refine PostJ.view (View.perm (List.Perm.swap _ _ _)) ?_; exact post_meet _ ⟨b7, b8, rfl, rfl, rfl⟩ ⟨rfl, rfl, trivial⟩)
  · rintro _ _ _ ⟨b7', b8', rfl, rfl, rfl⟩
    refine code_seq ?_
    refine code_draw (.fl 0 (.fl 1 (.fl 2 (.fl 3 (.fl 5 (.fl 6 (.fl 7 (.fl 8 (.ef 4 (.ef 9 (.ef 10 (.ef 11 (.fl 12 (.ef 13 .done)))))))))))))) (fun _ => _) mixed (by kernel_rfl) (by kernel_rfl) (fun _ => (List.Sublist.refl _)) ?_
    first | refine e_fl rfl rfl (fun hs_ => PF.mk rfl (v_fieldB 0 Try.underlying57 rfl rfl fz3 rfl) hs_) ?_ | refine e_fl rfl rfl (fun hs_ => PF.mk rfl (v_fieldI 0 Try.underlying57 rfl rfl fz3 rfl (by assumption)) hs_) ?_ | refine e_fl rfl rfl (fun hs_ => PF.mk rfl (v_field Try.underlying57 rfl fz3 rfl rfl) hs_) ?_
    refine e_fl rfl rfl (fun hs_ => PF.mk rfl (v_loadA ty3 rfl rfl) hs_) ?_
    first | refine e_fl rfl rfl (fun hs_ => PF.mk rfl (v_fieldB 0 Try.underlying57 rfl rfl fz3 rfl) hs_) ?_ | refine e_fl rfl rfl (fun hs_ => PF.mk rfl (v_fieldI 0 Try.underlying57 rfl rfl fz3 rfl (by assumption)) hs_) ?_ | refine e_fl rfl rfl (fun hs_ => PF.mk rfl (v_field Try.underlying57 rfl fz3 rfl rfl) hs_) ?_
    refine e_fl rfl rfl (fun hs_ => PF.mk rfl (v_loadA ty3 rfl rfl) hs_) ?_
    first | refine e_fl rfl rfl (fun hs_ => PF.mk rfl (v_fieldB 1 Try.underlying57 rfl rfl fz3 rfl) hs_) ?_ | refine e_fl rfl rfl (fun hs_ => PF.mk rfl (v_fieldI 1 Try.underlying57 rfl rfl fz3 rfl (by assumption)) hs_) ?_ | refine e_fl rfl rfl (fun hs_ => PF.mk rfl (v_field Try.underlying57 rfl fz3 rfl rfl) hs_) ?_
    refine e_fl rfl rfl (fun hs_ => PF.mk rfl (v_loadA ty3 rfl rfl) hs_) ?_
    first | refine e_fl rfl rfl (fun hs_ => PF.mk rfl (v_fieldB 1 Try.underlying57 rfl rfl fz3 rfl) hs_) ?_ | refine e_fl rfl rfl (fun hs_ => PF.mk rfl (v_fieldI 1 Try.underlying57 rfl rfl fz3 rfl (by assumption)) hs_) ?_ | refine e_fl rfl rfl (fun hs_ => PF.mk rfl (v_field Try.underlying57 rfl fz3 rfl rfl) hs_) ?_
    refine e_fl rfl rfl (fun hs_ => PF.mk rfl (v_loadA ty3 rfl rfl) hs_) ?_
    refine e_eff rfl (by intro cs b hc; cases hc) (by intro c hc; cases hc) ?_
    refine op_call pl66 rfl rfl ((cmpC_does)) Parts.none ?_
    rintro _ I27 _ hI27 ⟨rfl, rfl⟩
    refine ops_nil ?_
    refine e_next rfl side_allA ?_
    refine e_eff rfl (by intro cs b hc; cases hc) (by intro c hc; cases hc) ?_
    refine op_call pl66 rfl rfl ((cmpC_does)) Parts.none ?_
    rintro _ I32 _ hI32 ⟨rfl, rfl⟩
    refine ops_nil ?_
    refine e_next rfl side_allA ?_
    refine e_eff rfl (by intro cs b hc; cases hc) (by intro c hc; cases hc) ?_
    refine o_buildSlice (xs := [(Go.Operand.tmp 27), (Go.Operand.tmp 32)]) Try.underlying28 bs3 rfl rfl rfl rfl rfl (fun b33 => ?_)
    refine OpsJ.freezeRow Del.here ?_
    rintro I33 a33 c33 hI33 hq hc33 hl33 hcells33
    cases hq
    refine ops_nil ?_
    refine e_next rfl side_allA ?_
    refine e_eff rfl (by intro cs b hc; cases hc) (by intro c hc; cases hc) ?_
    refine op_call pl65 rfl rfl ((Or_does (RInts.of (xs := [ordI (gt xs i).1 (gt xs k).1, ordI (gt xs i).2 (gt xs k).2]) rfl hc33 (by omega) hcells33 (by intro x hx; simp at hx; rcases hx with rfl | rfl <;> exact ordI_inR _ _)))) Parts.none ?_
    rintro _ I34 _ hI34 ⟨rfl, rfl⟩
    refine ops_nil ?_
    refine e_next rfl side_allA ?_
    refine e_fl rfl rfl (fun hs_ => PF.mk rfl (v_cmp (z := ltB (gt xs i) (gt xs k)) rfl rfl (congrArg some (or_ltB _ _))) hs_) ?_
    refine e_eff rfl (by intro cs b hc; cases hc) (by intro c hc; cases hc) ?_
    refine op_v (v_assign rfl) rfl ?_
    refine ops_nil ?_
    refine e_next rfl (side_nil (by kernel_rfl)) ?_
    refine e_done ?_
    refine post_next ?_
    refine code_ret ?_
    refine post_ret (rs := [.tmp 6]) rfl (List.Perm.refl _) (.cons (.tmp rfl) .nil) (List.Sublist.cons _ (List.Sublist.cons _ (List.Sublist.refl _))) ?_
    exact ⟨rfl, rfl⟩
theorem swap_does {I : Imm} {hb mb c : Nat} {A : Option Addr} {xs : List It} {mp : Mp} {i k : Nat} (hi : i < xs.length) (hk : k < xs.length) (hl : xs.length ≤ 1000000000) (hat : AtOK xs mp) :
    Does Try.prog 56 [.pointer (some ⟨hb, 0, none⟩), .int .i64 i, .int .i64 k] I (HeapE hb mb A c xs mp) (fun v _ δ' => ∃ mp', AtOK (swapL xs i k) mp' ∧ δ' = HeapE hb mb A c (swapL xs i k) mp') := by
  have hsl := swapL_len xs i k
  have hset : (xs.set i (gt xs k)).length = xs.length := by simp
  have G := gt_swap hi hk
  have gk : gt (swapL xs i k) k = gt xs i := by rw [G, if_pos rfl]
  have gi : gt (swapL xs i k) i = gt xs k := by rw [G]; split; (rename_i e; rw [e]); rw [if_pos rfl]
  refine Does.intro Try.func56 rfl Try.ntmps56 rfl fun w0 => ?_
  refine code_seq ?_
  refine CodeJ.rowSome (Has.there Has.here) (by omega) (fun hA hcr => ?_)
  refine code_draw (.fl 0 (.fl 1 (.fl 2 (.fl 3 (.fl 4 (.fl 5 (.fl 6 (.fl 7 (.fl 8 (.fl 9 (.fl 10 (.fl 11 (.fl 12 (.fl 13 (.fl 14 (.fl 15 (.fl 16 (.fl 17 (.fl 18 (.fl 19 (.fl 20 (.fl 21 (.fl 22 (.fl 23 (.fl 24 (.ef 25 (.fl 26 (.ef 27 .done)))))))))))))))))))))))))))) (keepP [3, 8, 13, 16, 20, 23] (HeapE hb mb A c xs mp)) mixed (by kernel_rfl) (by kernel_rfl) (keepP_sub (List.Sublist.refl _)) ?_
  refine e_float rfl rfl (fun hs_ => PF.mk rfl (v_move rfl) hs_) Imm.leA (by first | exact keepP_mem (by intro x hx; exact hx) _ | exact (fun x hx => nomatch (show x ∈ ([] : List Ent) from hx))) ?_
  refine e_float rfl rfl (fun hs_ => PF.mk rfl (v_nilCheck rfl) hs_) Imm.leA (by first | exact keepP_mem (by intro x hx; exact hx) _ | exact (fun x hx => nomatch (show x ∈ ([] : List Ent) from hx))) ?_
  first | refine e_float rfl rfl (fun hs_ => PF.mk rfl (v_fieldB 0 Try.underlying97 rfl rfl fz51 rfl) hs_) Imm.leA (by first | exact keepP_mem (by intro x hx; exact hx) _ | exact (fun x hx => nomatch (show x ∈ ([] : List Ent) from hx))) ?_ | refine e_float rfl rfl (fun hs_ => PF.mk rfl (v_fieldI 0 Try.underlying97 rfl rfl fz51 rfl (by assumption)) hs_) Imm.leA (by first | exact keepP_mem (by intro x hx; exact hx) _ | exact (fun x hx => nomatch (show x ∈ ([] : List Ent) from hx))) ?_ | refine e_float rfl rfl (fun hs_ => PF.mk rfl (v_field Try.underlying97 rfl fz51 rfl rfl) hs_) Imm.leA (by first | exact keepP_mem (by intro x hx; exact hx) _ | exact (fun x hx => nomatch (show x ∈ ([] : List Ent) from hx))) ?_
  refine e_float rfl rfl (fun hs_ => PF.mk rfl (v_loadA ty51 rfl rfl) hs_) Imm.leA (by first | exact keepP_mem (by intro x hx; exact hx) _ | exact (fun x hx => nomatch (show x ∈ ([] : List Ent) from hx))) ?_
  refine e_float rfl rfl (fun hs_ => PF.mk rfl (v_move rfl) hs_) Imm.leA (by first | exact keepP_mem (by intro x hx; exact hx) _ | exact (fun x hx => nomatch (show x ∈ ([] : List Ent) from hx))) ?_
  refine e_float rfl rfl (fun hs_ => PF.mk rfl (v_move rfl) hs_) Imm.leA (by first | exact keepP_mem (by intro x hx; exact hx) _ | exact (fun x hx => nomatch (show x ∈ ([] : List Ent) from hx))) ?_
  refine e_float rfl rfl (fun hs_ => PF.mk rfl (v_nilCheck rfl) hs_) Imm.leA (by first | exact keepP_mem (by intro x hx; exact hx) _ | exact (fun x hx => nomatch (show x ∈ ([] : List Ent) from hx))) ?_
  first | refine e_float rfl rfl (fun hs_ => PF.mk rfl (v_fieldB 0 Try.underlying97 rfl rfl fz51 rfl) hs_) Imm.leA (by first | exact keepP_mem (by intro x hx; exact hx) _ | exact (fun x hx => nomatch (show x ∈ ([] : List Ent) from hx))) ?_ | refine e_float rfl rfl (fun hs_ => PF.mk rfl (v_fieldI 0 Try.underlying97 rfl rfl fz51 rfl (by assumption)) hs_) Imm.leA (by first | exact keepP_mem (by intro x hx; exact hx) _ | exact (fun x hx => nomatch (show x ∈ ([] : List Ent) from hx))) ?_ | refine e_float rfl rfl (fun hs_ => PF.mk rfl (v_field Try.underlying97 rfl fz51 rfl rfl) hs_) Imm.leA (by first | exact keepP_mem (by intro x hx; exact hx) _ | exact (fun x hx => nomatch (show x ∈ ([] : List Ent) from hx))) ?_
  refine e_float rfl rfl (fun hs_ => PF.mk rfl (v_loadA ty51 rfl rfl) hs_) Imm.leA (by first | exact keepP_mem (by intro x hx; exact hx) _ | exact (fun x hx => nomatch (show x ∈ ([] : List Ent) from hx))) ?_
  refine e_float rfl rfl (fun hs_ => PF.mk rfl (v_move rfl) hs_) Imm.leA (by first | exact keepP_mem (by intro x hx; exact hx) _ | exact (fun x hx => nomatch (show x ∈ ([] : List Ent) from hx))) ?_
  refine e_float rfl rfl (fun hs_ => PF.mk rfl (v_move rfl) hs_) Imm.leA (by first | exact keepP_mem (by intro x hx; exact hx) _ | exact (fun x hx => nomatch (show x ∈ ([] : List Ent) from hx))) ?_
  refine e_float rfl rfl (fun hs_ => PF.mk rfl (v_nilCheck rfl) hs_) Imm.leA (by first | exact keepP_mem (by intro x hx; exact hx) _ | exact (fun x hx => nomatch (show x ∈ ([] : List Ent) from hx))) ?_
  first | refine e_float rfl rfl (fun hs_ => PF.mk rfl (v_fieldB 0 Try.underlying97 rfl rfl fz51 rfl) hs_) Imm.leA (by first | exact keepP_mem (by intro x hx; exact hx) _ | exact (fun x hx => nomatch (show x ∈ ([] : List Ent) from hx))) ?_ | refine e_float rfl rfl (fun hs_ => PF.mk rfl (v_fieldI 0 Try.underlying97 rfl rfl fz51 rfl (by assumption)) hs_) Imm.leA (by first | exact keepP_mem (by intro x hx; exact hx) _ | exact (fun x hx => nomatch (show x ∈ ([] : List Ent) from hx))) ?_ | refine e_float rfl rfl (fun hs_ => PF.mk rfl (v_field Try.underlying97 rfl fz51 rfl rfl) hs_) Imm.leA (by first | exact keepP_mem (by intro x hx; exact hx) _ | exact (fun x hx => nomatch (show x ∈ ([] : List Ent) from hx))) ?_
  refine e_float rfl rfl (fun hs_ => PF.mk rfl (v_loadA ty51 rfl rfl) hs_) Imm.leA (by first | exact keepP_mem (by intro x hx; exact hx) _ | exact (fun x hx => nomatch (show x ∈ ([] : List Ent) from hx))) ?_
  refine e_float rfl rfl (fun hs_ => PF.mk rfl (v_move rfl) hs_) Imm.leA (by first | exact keepP_mem (by intro x hx; exact hx) _ | exact (fun x hx => nomatch (show x ∈ ([] : List Ent) from hx))) ?_
  first | refine e_float rfl rfl (fun hs_ => PF.mk rfl (v_indexA Try.underlying51 sz57 rfl rfl) hs_) Imm.leA (by first | exact keepP_mem (by intro x hx; exact hx) _ | exact (fun x hx => nomatch (show x ∈ ([] : List Ent) from hx))) ?_ | refine e_float rfl rfl (fun hs_ => PF.mk rfl (v_indexIA Try.underlying51 sz57 rfl rfl) hs_) Imm.leA (by first | exact keepP_mem (by intro x hx; exact hx) _ | exact (fun x hx => nomatch (show x ∈ ([] : List Ent) from hx))) ?_
  refine e_float rfl rfl (fun hs_ => PF.mk rfl (v_loadRow ty57 rfl (Has.there Has.here) hA (ld_it hk)) hs_) Imm.leA (by first | exact keepP_mem (by intro x hx; exact hx) _ | exact (fun x hx => nomatch (show x ∈ ([] : List Ent) from hx))) ?_
  refine e_float rfl rfl (fun hs_ => PF.mk rfl (v_move rfl) hs_) Imm.leA (by first | exact keepP_mem (by intro x hx; exact hx) _ | exact (fun x hx => nomatch (show x ∈ ([] : List Ent) from hx))) ?_
  refine e_float rfl rfl (fun hs_ => PF.mk rfl (v_nilCheck rfl) hs_) Imm.leA (by first | exact keepP_mem (by intro x hx; exact hx) _ | exact (fun x hx => nomatch (show x ∈ ([] : List Ent) from hx))) ?_
  first | refine e_float rfl rfl (fun hs_ => PF.mk rfl (v_fieldB 0 Try.underlying97 rfl rfl fz51 rfl) hs_) Imm.leA (by first | exact keepP_mem (by intro x hx; exact hx) _ | exact (fun x hx => nomatch (show x ∈ ([] : List Ent) from hx))) ?_ | refine e_float rfl rfl (fun hs_ => PF.mk rfl (v_fieldI 0 Try.underlying97 rfl rfl fz51 rfl (by assumption)) hs_) Imm.leA (by first | exact keepP_mem (by intro x hx; exact hx) _ | exact (fun x hx => nomatch (show x ∈ ([] : List Ent) from hx))) ?_ | refine e_float rfl rfl (fun hs_ => PF.mk rfl (v_field Try.underlying97 rfl fz51 rfl rfl) hs_) Imm.leA (by first | exact keepP_mem (by intro x hx; exact hx) _ | exact (fun x hx => nomatch (show x ∈ ([] : List Ent) from hx))) ?_
  refine e_float rfl rfl (fun hs_ => PF.mk rfl (v_loadA ty51 rfl rfl) hs_) Imm.leA (by first | exact keepP_mem (by intro x hx; exact hx) _ | exact (fun x hx => nomatch (show x ∈ ([] : List Ent) from hx))) ?_
  refine e_float rfl rfl (fun hs_ => PF.mk rfl (v_move rfl) hs_) Imm.leA (by first | exact keepP_mem (by intro x hx; exact hx) _ | exact (fun x hx => nomatch (show x ∈ ([] : List Ent) from hx))) ?_
  first | refine e_float rfl rfl (fun hs_ => PF.mk rfl (v_indexA Try.underlying51 sz57 rfl rfl) hs_) Imm.leA (by first | exact keepP_mem (by intro x hx; exact hx) _ | exact (fun x hx => nomatch (show x ∈ ([] : List Ent) from hx))) ?_ | refine e_float rfl rfl (fun hs_ => PF.mk rfl (v_indexIA Try.underlying51 sz57 rfl rfl) hs_) Imm.leA (by first | exact keepP_mem (by intro x hx; exact hx) _ | exact (fun x hx => nomatch (show x ∈ ([] : List Ent) from hx))) ?_
  refine e_float rfl rfl (fun hs_ => PF.mk rfl (v_loadRow ty57 rfl (Has.there Has.here) hA (ld_it hi)) hs_) Imm.leA (by first | exact keepP_mem (by intro x hx; exact hx) _ | exact (fun x hx => nomatch (show x ∈ ([] : List Ent) from hx))) ?_
  first | refine e_float rfl rfl (fun hs_ => PF.mk rfl (v_indexA Try.underlying51 sz57 rfl rfl) hs_) Imm.leA (by first | exact keepP_mem (by intro x hx; exact hx) _ | exact (fun x hx => nomatch (show x ∈ ([] : List Ent) from hx))) ?_ | refine e_float rfl rfl (fun hs_ => PF.mk rfl (v_indexIA Try.underlying51 sz57 rfl rfl) hs_) Imm.leA (by first | exact keepP_mem (by intro x hx; exact hx) _ | exact (fun x hx => nomatch (show x ∈ ([] : List Ent) from hx))) ?_
  refine e_eff rfl (by intro cs b hc; cases hc) (by intro c hc; cases hc) ?_
  refine o_storeRow (xs' := itL (xs.set i (gt xs k))) ty57 rfl rfl hA rfl rfl rfl (by simp [cellsL]) (Swap.there Swap.here) (stL_it hi (gt xs k)) ?_
  refine ops_nil ?_
  refine e_next_ (side_P (by kernel_rfl) Imm.leA) ?_
  first | refine e_float rfl rfl (fun hs_ => PF.mk rfl (v_indexA Try.underlying51 sz57 rfl rfl) hs_) Imm.leA (by first | exact keepP_mem (by intro x hx; exact hx) _ | exact (fun x hx => nomatch (show x ∈ ([] : List Ent) from hx))) ?_ | refine e_float rfl rfl (fun hs_ => PF.mk rfl (v_indexIA Try.underlying51 sz57 rfl rfl) hs_) Imm.leA (by first | exact keepP_mem (by intro x hx; exact hx) _ | exact (fun x hx => nomatch (show x ∈ ([] : List Ent) from hx))) ?_
  refine e_eff rfl (by intro cs b hc; cases hc) (by intro c hc; cases hc) ?_
  refine o_storeRow (xs' := itL (swapL xs i k)) ty57 rfl rfl hA rfl rfl rfl (by simp [cellsL]) (Swap.there Swap.here) (stL_it (xs := xs.set i (gt xs k)) (by rw [hset]; exact hk) (gt xs i)) ?_
  refine ops_nil ?_
  refine e_next_ (side_nil (by kernel_rfl)) ?_
  refine e_done ?_
  refine post_next ?_
  refine code_draw (.fl 0 (.fl 1 (.fl 2 (.fl 3 (.fl 4 (.fl 5 (.fl 6 (.fl 7 (.fl 8 (.fl 9 (.fl 10 (.fl 11 (.fl 12 (.fl 13 (.fl 14 (.fl 15 (.fl 16 (.fl 17 (.fl 18 (.fl 19 (.fl 20 (.fl 21 (.fl 22 (.fl 23 (.fl 24 (.fl 25 (.ef 26 (.fl 27 (.ef 28 (.ef 29 (.fl 30 (.ef 31 .done)))))))))))))))))))))))))))))))) (fun _ => [.box hb 97 [.slice A xs.length c, .map (some mb)], .row (.slice A xs.length c) 57 2 xs.length (itL (swapL xs i k))]) mixed (by kernel_rfl) (by kernel_rfl) (fun _ => (List.Sublist.cons_cons _ (List.Sublist.cons_cons _ (List.nil_sublist _)))) ?_
  refine e_fl rfl rfl (fun hs_ => PF.mk rfl (v_move rfl) hs_) ?_
  refine e_fl rfl rfl (fun hs_ => PF.mk rfl (v_nilCheck rfl) hs_) ?_
  first | refine e_fl rfl rfl (fun hs_ => PF.mk rfl (v_fieldB 1 Try.underlying97 rfl rfl fz95 rfl) hs_) ?_ | refine e_fl rfl rfl (fun hs_ => PF.mk rfl (v_fieldI 1 Try.underlying97 rfl rfl fz95 rfl (by assumption)) hs_) ?_ | refine e_fl rfl rfl (fun hs_ => PF.mk rfl (v_field Try.underlying97 rfl fz95 rfl rfl) hs_) ?_
  refine e_fl rfl rfl (fun hs_ => PF.mk rfl (v_loadA ty95 rfl rfl) hs_) ?_
  refine e_fl rfl rfl (fun hs_ => PF.mk rfl (v_move rfl) hs_) ?_
  refine e_fl rfl rfl (fun hs_ => PF.mk rfl (v_nilCheck rfl) hs_) ?_
  first | refine e_fl rfl rfl (fun hs_ => PF.mk rfl (v_fieldB 0 Try.underlying97 rfl rfl fz51 rfl) hs_) ?_ | refine e_fl rfl rfl (fun hs_ => PF.mk rfl (v_fieldI 0 Try.underlying97 rfl rfl fz51 rfl (by assumption)) hs_) ?_ | refine e_fl rfl rfl (fun hs_ => PF.mk rfl (v_field Try.underlying97 rfl fz51 rfl rfl) hs_) ?_
  refine e_fl rfl rfl (fun hs_ => PF.mk rfl (v_loadA ty51 rfl rfl) hs_) ?_
  refine e_fl rfl rfl (fun hs_ => PF.mk rfl (v_move rfl) hs_) ?_
  first | refine e_fl rfl rfl (fun hs_ => PF.mk rfl (v_indexA Try.underlying51 sz57 rfl rfl) hs_) ?_ | refine e_fl rfl rfl (fun hs_ => PF.mk rfl (v_indexIA Try.underlying51 sz57 rfl rfl) hs_) ?_
  first | refine e_fl rfl rfl (fun hs_ => PF.mk rfl (v_fieldB 1 Try.underlying57 rfl rfl fz3 rfl) hs_) ?_ | refine e_fl rfl rfl (fun hs_ => PF.mk rfl (v_fieldI 1 Try.underlying57 rfl rfl fz3 rfl (by assumption)) hs_) ?_ | refine e_fl rfl rfl (fun hs_ => PF.mk rfl (v_field Try.underlying57 rfl fz3 rfl rfl) hs_) ?_
  refine e_fl rfl rfl (fun hs_ => PF.mk rfl (v_loadRow ty3 rfl (Has.there Has.here) hA (ld_id (xs := swapL xs i k) (by rw [hsl]; exact hi))) hs_) ?_
  refine e_fl rfl rfl (fun hs_ => PF.mk rfl (v_move rfl) hs_) ?_
  refine e_fl rfl rfl (fun hs_ => PF.mk rfl (v_nilCheck rfl) hs_) ?_
  first | refine e_fl rfl rfl (fun hs_ => PF.mk rfl (v_fieldB 1 Try.underlying97 rfl rfl fz95 rfl) hs_) ?_ | refine e_fl rfl rfl (fun hs_ => PF.mk rfl (v_fieldI 1 Try.underlying97 rfl rfl fz95 rfl (by assumption)) hs_) ?_ | refine e_fl rfl rfl (fun hs_ => PF.mk rfl (v_field Try.underlying97 rfl fz95 rfl rfl) hs_) ?_
  refine e_fl rfl rfl (fun hs_ => PF.mk rfl (v_loadA ty95 rfl rfl) hs_) ?_
  refine e_fl rfl rfl (fun hs_ => PF.mk rfl (v_move rfl) hs_) ?_
  refine e_fl rfl rfl (fun hs_ => PF.mk rfl (v_nilCheck rfl) hs_) ?_
  first | refine e_fl rfl rfl (fun hs_ => PF.mk rfl (v_fieldB 0 Try.underlying97 rfl rfl fz51 rfl) hs_) ?_ | refine e_fl rfl rfl (fun hs_ => PF.mk rfl (v_fieldI 0 Try.underlying97 rfl rfl fz51 rfl (by assumption)) hs_) ?_ | refine e_fl rfl rfl (fun hs_ => PF.mk rfl (v_field Try.underlying97 rfl fz51 rfl rfl) hs_) ?_
  refine e_fl rfl rfl (fun hs_ => PF.mk rfl (v_loadA ty51 rfl rfl) hs_) ?_
  refine e_fl rfl rfl (fun hs_ => PF.mk rfl (v_move rfl) hs_) ?_
  first | refine e_fl rfl rfl (fun hs_ => PF.mk rfl (v_indexA Try.underlying51 sz57 rfl rfl) hs_) ?_ | refine e_fl rfl rfl (fun hs_ => PF.mk rfl (v_indexIA Try.underlying51 sz57 rfl rfl) hs_) ?_
  first | refine e_fl rfl rfl (fun hs_ => PF.mk rfl (v_fieldB 1 Try.underlying57 rfl rfl fz3 rfl) hs_) ?_ | refine e_fl rfl rfl (fun hs_ => PF.mk rfl (v_fieldI 1 Try.underlying57 rfl rfl fz3 rfl (by assumption)) hs_) ?_ | refine e_fl rfl rfl (fun hs_ => PF.mk rfl (v_field Try.underlying57 rfl fz3 rfl rfl) hs_) ?_
  refine e_fl rfl rfl (fun hs_ => PF.mk rfl (v_loadRow ty3 rfl (Has.there Has.here) hA (ld_id (xs := swapL xs i k) (by rw [hsl]; exact hk))) hs_) ?_
  refine e_fl rfl rfl (fun hs_ => PF.mk rfl (v_move rfl) hs_) ?_
  refine e_fl rfl rfl (fun hs_ => PF.mk rfl (v_move rfl) hs_) ?_
  refine e_eff rfl (by intro cs b hc; cases hc) (by intro c hc; cases hc) ?_
  refine o_mapEntry (δ' := fun es ck => [.box hb 97 [.slice A xs.length c, .map (some mb)], .row (.slice A xs.length c) 57 2 xs.length (itL (swapL xs i k)), .obj mb (.map es ck)]) Try.underlying95 Try.underlying3 z3 (by rfl) (by rfl) (by rfl) (fun _ _ => Swap.there (Swap.there Swap.here)) (fun es58 ck58 s58 hmi58 hst58 => ?_)
  refine ops_nil ?_
  refine e_next rfl side_allA ?_
  refine e_fl rfl rfl (fun hs_ => PF.mk rfl (v_extract rfl rfl) hs_) ?_
  refine e_eff rfl (by intro cs b hc; cases hc) (by intro c hc; cases hc) ?_
  refine o_entryStore hmi58 hst58 rfl rfl rfl rfl (Swap.there (Swap.there Swap.here)) ?_
  refine ops_nil ?_
  refine e_next_ side_allA ?_
  refine e_eff rfl (by intro cs b hc; cases hc) (by intro c hc; cases hc) ?_
  refine o_mapEntry (δ' := fun es ck => [.box hb 97 [.slice A xs.length c, .map (some mb)], .row (.slice A xs.length c) 57 2 xs.length (itL (swapL xs i k)), .obj mb (.map es ck)]) Try.underlying95 Try.underlying3 z3 (by rfl) (by rfl) (by rfl) (fun _ _ => Swap.there (Swap.there Swap.here)) (fun es60 ck60 s60 hmi60 hst60 => ?_)
  refine ops_nil ?_
  refine e_next rfl side_allA ?_
  refine e_fl rfl rfl (fun hs_ => PF.mk rfl (v_extract rfl rfl) hs_) ?_
  refine e_eff rfl (by intro cs b hc; cases hc) (by intro c hc; cases hc) ?_
  refine o_entryStore hmi60 hst60 rfl rfl rfl rfl (Swap.there (Swap.there Swap.here)) ?_
  refine ops_nil ?_
  refine e_next_ (side_nil (by kernel_rfl)) ?_
  refine e_done ?_
  have hfin : ∀ m, AtOK (swapL xs i k) m → ∃ mp', AtOK (swapL xs i k) mp' ∧ ([.box hb 97 [.slice A xs.length c, .map (some mb)], .row (.slice A xs.length c) 57 2 xs.length (itL (swapL xs i k)), .map mb m] : List Ent) = HeapE hb mb A c (swapL xs i k) mp' := fun m h => ⟨m, h, by simp only [HeapE, hsl]⟩
  refine post_end (rs := []) rfl (List.Perm.refl _) .nil (List.Sublist.refl _) (hfin _ (hat.swap hi hk ?_))
  intro q; rw [mput_mput, mput_mput, mget_mput, mget_mput, gk, gi]
end Go.Proofs.Ythbcdffldcdfoaa
/- Walks: an item rises, and sinks. -/
set_option linter.unusedVariables false
set_option linter.unusedSimpArgs false
set_option linter.unnecessarySimpa false
/- short -/
namespace Go.Proofs.Ythbcdffldcdfoaa
open Go Lg

theorem up_does {I : Imm} {hb mb c : Nat} {A : Option Addr} {xs : List It} {mp : Mp} {i : Nat} (hi : i < xs.length) (hl : xs.length ≤ 1000000) (hat : AtOK xs mp) (hu : UpInv xs i i) :
    Does Try.prog 54 [.pointer (some ⟨hb, 0, none⟩), .int .i64 i] I (HeapE hb mb A c xs mp) (fun v _ δ' => ∃ xs' mp', xs'.Perm xs ∧ DownInv xs' i ∧ AtOK xs' mp' ∧ δ' = HeapE hb mb A c xs' mp') := by
  refine Does.intro Try.func54 rfl Try.ntmps54 rfl fun w0 => ?_
  refine code_block ?_
  refine code_loop (fun m σ' I' δ' => ∃ (cur : Nat) (ys : List It) (mq : Mp), m = cur ∧ σ' = [(0, .pointer (some ⟨hb, 0, none⟩)), (1, .int .i64 cur)] ∧ I.le I' ∧ δ' = HeapE hb mb A c ys mq ∧ cur ≤ i ∧ ys.Perm xs ∧ UpInv ys cur i ∧ AtOK ys mq) i [(0, .pointer (some ⟨hb, 0, none⟩)), (1, .int .i64 i)] ⟨i, xs, mp, rfl, rfl, Imm.le_refl _, rfl, Nat.le_refl _, List.Perm.refl _, hu, hat⟩ ⟨rfl, rfl, trivial⟩ ?_
  rintro cur _ I0 _ ⟨_, ys, mq, rfl, rfl, hI0, rfl, hcur, hperm, hinv, hok⟩
  have hyl := hperm.length_eq
  refine code_seq ?_
  refine code_seq ?_
  refine code_region ?_
  refine op_v (v_move rfl) rfl ?_
  by_cases h5 : 0 < cur
  · have hdv : ((cur - 1 : Nat) : Int).tdiv 2 = (((cur - 1) / 2 : Nat) : Int) := rfl
    first | refine op_v (v_cmptA rfl rfl rfl) rfl ?_ | refine op_v (v_cmpfA rfl rfl rfl) rfl ?_ | refine op_v (v_cmp rfl rfl rfl) rfl ?_
    refine op_v (v_move rfl) rfl ?_
    first
      | (refine op_want rfl rfl ?_
         refine op_v (v_move rfl) rfl ?_)
      | (refine op_skip rfl rfl (by simp [undef]) rfl ?_)
    first
      | (refine op_want rfl rfl ?_
         refine op_v (v_move rfl) rfl ?_)
      | (refine op_skip rfl rfl (by simp [undef]) rfl ?_)
    first
      | (refine op_want rfl rfl ?_
         refine op_v (v_move rfl) rfl ?_)
      | (refine op_skip rfl rfl (by simp [undef]) rfl ?_)
    first
      | (refine op_want rfl rfl ?_
         refine op_v (v_subb (c := ((cur - 1 : Nat) : Int)) rfl rfl (by omega) (by omega)) rfl ?_)
      | (refine op_skip rfl rfl (by simp [undef]) rfl ?_)
    first
      | (refine op_want rfl rfl ?_
         refine op_v (v_quob (c := (((cur - 1) / 2 : Nat) : Int)) rfl rfl (by decide) hdv (by omega)) rfl ?_)
      | (refine op_skip rfl rfl (by simp [undef]) rfl ?_)
    first
      | (refine op_want rfl rfl ?_
         refine op_call pl63 rfl rfl ((less_does (by omega) (by omega) (by omega))) Parts.all ?_
         rintro v12 I12 _ hI12 ⟨rfl, rfl⟩
         rw [List.append_nil])
      | (refine op_skip rfl rfl (by simp [undef]) rfl ?_)
    by_cases h13 : ltB (gt ys cur) (gt ys ((cur - 1) / 2)) = true
    · rw [h13]
      first | refine op_v (v_pickt rfl rfl) rfl ?_ | refine op_v (v_pickf rfl rfl) rfl ?_ | refine op_v (v_pickb rfl rfl rfl) rfl ?_
      refine ops_nil ?_
      refine post_next ?_
      refine code_cond_t rfl ?_
      refine code_skip ?_
      refine post_next ?_
      refine code_block ?_
      refine code_seq ?_
      refine code_region ?_
      refine op_v (v_move rfl) rfl ?_
      refine op_v (v_move rfl) rfl ?_
      refine op_v (v_move rfl) rfl ?_
      refine op_v (v_subb (c := ((cur - 1 : Nat) : Int)) rfl rfl (by omega) (by omega)) rfl ?_
      refine op_v (v_quob (c := (((cur - 1) / 2 : Nat) : Int)) rfl rfl (by decide) hdv (by omega)) rfl ?_
      refine op_call pl56 rfl rfl ((swap_does (i := cur) (k := (cur - 1) / 2) (by omega) (by omega) (by omega) hok)) Parts.all ?_
      rintro v19 I19 _ hI19 ⟨mq', hok', rfl⟩
      rw [List.append_nil]
      refine ops_nil ?_
      refine post_next ?_
      refine code_region ?_
      refine op_v (v_move rfl) rfl ?_
      refine op_v (v_subb (c := ((cur - 1 : Nat) : Int)) rfl rfl (by omega) (by omega)) rfl ?_
      refine op_v (v_quob (c := (((cur - 1) / 2 : Nat) : Int)) rfl rfl (by decide) hdv (by omega)) rfl ?_
      refine op_v (v_assign rfl) rfl ?_
      refine ops_nil ?_
      refine post_out ?_
      refine post_again ((cur - 1) / 2) [(0, .pointer (some ⟨hb, 0, none⟩)), (1, .int .i64 ((cur - 1) / 2 : Nat))] (by omega) ⟨(cur - 1) / 2, _, mq', rfl, rfl, Imm.leA, rfl, by omega, (swapL_perm (by omega) (by omega)).trans hperm, up_step hinv h5 (by omega) hcur (leI_lt h13), hok'⟩ ⟨rfl, rfl, trivial⟩
    · have h13' : ltB (gt ys cur) (gt ys ((cur - 1) / 2)) = false := by simpa using h13
      rw [h13']
      first | refine op_v (v_pickt rfl rfl) rfl ?_ | refine op_v (v_pickf rfl rfl) rfl ?_ | refine op_v (v_pickb rfl rfl rfl) rfl ?_
      refine ops_nil ?_
      refine post_next ?_
      refine code_cond_f rfl ?_
      refine code_exit ?_
      refine post_exit_then ?_
      refine post_exit_then ?_
      refine post_exit ?_
      exact post_end (rs := []) rfl (List.Perm.refl _) .nil (List.Sublist.refl _) ⟨ys, mq, hperm, up_end hinv (.inr (leI_of h13')), hok, rfl⟩
  · first | refine op_v (v_cmptA rfl rfl rfl) rfl ?_ | refine op_v (v_cmpfA rfl rfl rfl) rfl ?_ | refine op_v (v_cmp rfl rfl rfl) rfl ?_
    refine op_v (v_move rfl) rfl ?_
    first
      | (refine op_want rfl rfl ?_
         refine op_v (v_move rfl) rfl ?_)
      | (refine op_skip rfl rfl (by simp [undef]) rfl ?_)
    first
      | (refine op_want rfl rfl ?_
         refine op_v (v_move rfl) rfl ?_)
      | (refine op_skip rfl rfl (by simp [undef]) rfl ?_)
    first
      | (refine op_want rfl rfl ?_
         refine op_v (v_move rfl) rfl ?_)
      | (refine op_skip rfl rfl (by simp [undef]) rfl ?_)
    first
      | (refine op_want rfl rfl ?_
         refine op_v (v_subb (c := ((cur - 1 : Nat) : Int)) rfl rfl (by omega) (by omega)) rfl ?_)
      | (refine op_skip rfl rfl (by simp [undef]) rfl ?_)
    first
      | (refine op_want rfl rfl ?_
         refine op_v (v_quob (c := (((cur - 1) / 2 : Nat) : Int)) rfl rfl (by decide) hdv (by omega)) rfl ?_)
      | (refine op_skip rfl rfl (by simp [undef]) rfl ?_)
    first
      | (refine op_want rfl rfl ?_
         refine op_call pl63 rfl rfl ((less_does (by omega) (by omega) (by omega))) Parts.all ?_
         rintro v12 I12 _ hI12 ⟨rfl, rfl⟩
         rw [List.append_nil])
      | (refine op_skip rfl rfl (by simp [undef]) rfl ?_)
    first | refine op_v (v_pickt rfl rfl) rfl ?_ | refine op_v (v_pickf rfl rfl) rfl ?_ | refine op_v (v_pickb rfl rfl rfl) rfl ?_
    refine ops_nil ?_
    refine post_next ?_
    refine code_cond_f rfl ?_
    refine code_exit ?_
    refine post_exit_then ?_
    refine post_exit_then ?_
    refine post_exit ?_
    exact post_end (rs := []) rfl (List.Perm.refl _) .nil (List.Sublist.refl _) ⟨ys, mq, hperm, up_end hinv (.inl (by omega)), hok, rfl⟩
theorem down_does {I : Imm} {hb mb c : Nat} {A : Option Addr} {xs : List It} {mp : Mp} {i : Nat} (hi : i < xs.length) (hl : xs.length ≤ 1000000) (hat : AtOK xs mp) (hu : DownInv xs i) :
    Does Try.prog 57 [.pointer (some ⟨hb, 0, none⟩), .int .i64 i] I (HeapE hb mb A c xs mp) (fun v _ δ' => ∃ xs' mp', xs'.Perm xs ∧ IsHeap xs' ∧ AtOK xs' mp' ∧ δ' = HeapE hb mb A c xs' mp') := by
  refine Does.intro Try.func57 rfl Try.ntmps57 rfl fun w0 => ?_
  refine code_block ?_
  refine code_loop (fun m σ' I' δ' => ∃ (cur : Nat) (ys : List It) (mq : Mp), m = xs.length - cur ∧ σ' = [(0, .pointer (some ⟨hb, 0, none⟩)), (1, .int .i64 cur)] ∧ I.le I' ∧ δ' = HeapE hb mb A c ys mq ∧ cur < xs.length ∧ ys.Perm xs ∧ DownInv ys cur ∧ AtOK ys mq) (xs.length - i) [(0, .pointer (some ⟨hb, 0, none⟩)), (1, .int .i64 i)] ⟨i, xs, mp, rfl, rfl, Imm.le_refl _, rfl, hi, List.Perm.refl _, hu, hat⟩ ⟨rfl, rfl, trivial⟩ ?_
  rintro m _ I0 _ ⟨cur, ys, mq, rfl, rfl, hI0, rfl, hcur, hperm, hinv, hok⟩
  have hyl := hperm.length_eq
  refine code_block ?_
  refine code_seq ?_
  refine code_region ?_
  refine op_v (v_move rfl) rfl ?_
  refine op_v (v_assign rfl) rfl ?_
  refine ops_nil ?_
  refine post_next ?_
  refine code_seq ?_
  refine code_seq ?_
  refine code_region ?_
  refine op_v (v_move rfl) rfl ?_
  refine op_v (v_mulb (c := ((2 * cur : Nat) : Int)) rfl rfl (by omega) (by omega)) rfl ?_
  refine op_v (v_addb (c := ((2 * cur + 1 + 0 : Nat) : Int)) rfl rfl (by omega) (by omega)) rfl ?_
  refine op_v (v_move rfl) rfl ?_
  refine op_v (v_mulb (c := ((2 * cur : Nat) : Int)) rfl rfl (by omega) (by omega)) rfl ?_
  refine op_v (v_addb (c := ((2 * cur + 1 + 1 : Nat) : Int)) rfl rfl (by omega) (by omega)) rfl ?_
  refine o_buildSlice (xs := [(Go.Operand.tmp 10), (Go.Operand.tmp 13)]) Try.underlying28 bs3 rfl rfl rfl rfl rfl (fun b14 => ?_)
  refine OpsJ.freezeRow Del.here ?_
  rintro I14 a14 c14 hI14 hq hc14 hl14 hcells14
  cases hq
  have hel : ∀ n, n < 2 → At I14 (some ⟨b14, 0, none⟩) (n * 1) [.int .i64 ((2 * cur + 1 + n : Nat) : Int)] := fun n hn => hcells14.at _ fun j u hj => by
    rcases j with _ | j
    · simp at hj; subst hj
      rcases n with _ | _ | n
      · rfl
      · rfl
      · omega
    · simp at hj
  refine op_v (v_len Try.underlying28 rfl) rfl ?_
  refine op_v (v_move rfl) rfl ?_
  refine ops_nil ?_
  refine post_next ?_
  refine code_block ?_
  refine code_loop (fun m σ' I' δ' => ∃ (n b : Nat), m = 2 - n ∧ n ≤ 2 ∧ σ' = [(0, .pointer (some ⟨hb, 0, none⟩)), (1, .int .i64 cur), (4, .int .i64 b), (14, .slice (some ⟨b14, 0, none⟩) 2 2), (15, .int .i64 2), (16, .int .i64 n)] ∧ I14.le I' ∧ δ' = HeapE hb mb A c ys mq ∧ (b = cur ∨ (0 < b ∧ (b - 1) / 2 = cur)) ∧ b < ys.length ∧ leI (gt ys b) (gt ys cur) ∧ ∀ j, (j = 2 * cur + 1 ∧ 0 < n) ∨ (j = 2 * cur + 2 ∧ 1 < n) → j < ys.length → leI (gt ys b) (gt ys j)) 2 [(0, .pointer (some ⟨hb, 0, none⟩)), (1, .int .i64 cur), (4, .int .i64 cur), (14, .slice (some ⟨b14, 0, none⟩) 2 2), (15, .int .i64 2), (16, .int .i64 (0 : Nat))] ⟨0, cur, rfl, by omega, rfl, Imm.leA, rfl, .inl rfl, by omega, leI_refl _, fun j hj _ => by omega⟩ ⟨rfl, rfl, rfl, rfl, rfl, rfl, trivial⟩ ?_
  rintro m _ I1 _ ⟨n, b, rfl, hn, rfl, hI1, rfl, hb1, hb2, hb3, hb4⟩
  refine code_seq ?_
  refine code_region ?_
  first | refine op_v (v_cmptA rfl rfl rfl) rfl ?_ | refine op_v (v_cmpfA rfl rfl rfl) rfl ?_ | refine op_v (v_cmp rfl rfl rfl) rfl ?_
  refine ops_nil ?_
  refine post_next ?_
  refine code_seq ?_
  refine code_cond rfl (fun hc0 => ?_) (fun hc0 => ?_)
  · have hlt : n < 2 := by have h := hc0; simp at h; omega
    have hs1 := (hel n hlt).isSome
    refine code_skip ?_
    refine post_next ?_
    refine code_seq ?_
    refine code_block ?_
    refine code_seq ?_
    refine code_region ?_
    first | refine op_v (v_indexA Try.underlying28 sz3 rfl rfl) rfl ?_ | refine op_v (v_indexIA Try.underlying28 sz3 rfl rfl) rfl ?_
    first | refine op_v (v_loadI0 ty3 ((hel n hlt).mono hI1) rfl rfl rfl) rfl ?_ | refine op_v (v_loadI ty3 ((hel n hlt).mono hI1) rfl rfl rfl) rfl ?_
    refine op_v (v_assign rfl) rfl ?_
    refine ops_nil ?_
    refine post_next ?_
    refine code_seq ?_
    refine code_region ?_
    refine op_v (v_move rfl) rfl ?_
    refine op_v (v_move rfl) rfl ?_
    refine op_v (v_nilCheck rfl) rfl ?_
    first | refine op_v (v_fieldB 0 Try.underlying97 rfl rfl fz51 rfl) rfl ?_ | refine op_v (v_fieldI 0 Try.underlying97 rfl rfl fz51 rfl (by assumption)) rfl ?_ | refine op_v (v_field Try.underlying97 rfl fz51 rfl rfl) rfl ?_
    refine op_v (v_loadA ty51 rfl rfl) rfl ?_
    refine op_v (v_len Try.underlying51 rfl) rfl ?_
    by_cases h26 : 2 * cur + 1 + n < ys.length
    · first | refine op_v (v_cmptA rfl rfl rfl) rfl ?_ | refine op_v (v_cmpfA rfl rfl rfl) rfl ?_ | refine op_v (v_cmp rfl rfl rfl) rfl ?_
      refine op_v (v_move rfl) rfl ?_
      first
        | (refine op_want rfl rfl ?_
           refine op_v (v_move rfl) rfl ?_)
        | (refine op_skip rfl rfl (by simp [undef]) rfl ?_)
      first
        | (refine op_want rfl rfl ?_
           refine op_v (v_move rfl) rfl ?_)
        | (refine op_skip rfl rfl (by simp [undef]) rfl ?_)
      first
        | (refine op_want rfl rfl ?_
           refine op_v (v_move rfl) rfl ?_)
        | (refine op_skip rfl rfl (by simp [undef]) rfl ?_)
      first
        | (refine op_want rfl rfl ?_
           refine op_call pl63 rfl rfl ((less_does (i := 2 * cur + 1 + n) (k := b) h26 hb2 (by omega))) Parts.all ?_
           rintro v31 I31 _ hI31 ⟨rfl, rfl⟩
           rw [List.append_nil])
        | (refine op_skip rfl rfl (by simp [undef]) rfl ?_)
      by_cases h32 : ltB (gt ys (2 * cur + 1 + n)) (gt ys b) = true
      · rw [h32]
        first | refine op_v (v_pickt rfl rfl) rfl ?_ | refine op_v (v_pickf rfl rfl) rfl ?_ | refine op_v (v_pickb rfl rfl rfl) rfl ?_
        refine ops_nil ?_
        refine post_next ?_
        refine code_cond_t rfl ?_
        refine code_region ?_
        refine op_v (v_move rfl) rfl ?_
        refine op_v (v_assign rfl) rfl ?_
        refine ops_nil ?_
        refine post_out ?_
        refine post_next ?_
        refine code_region ?_
        first | refine op_v (v_addb rfl rfl rfl (by omega)) rfl ?_ | refine op_v (v_add rfl rfl) rfl ?_
        refine op_v (v_move rfl) rfl ?_
        refine ops_nil ?_
        refine post_again (2 - (n + 1)) [(0, .pointer (some ⟨hb, 0, none⟩)), (1, .int .i64 cur), (4, .int .i64 (2 * cur + 1 + n : Nat)), (14, .slice (some ⟨b14, 0, none⟩) 2 2), (15, .int .i64 2), (16, .int .i64 (n + 1 : Nat))] (by omega) ⟨n + 1, 2 * cur + 1 + n, rfl, hlt, rfl, Imm.leA, rfl, .inr ⟨by omega, by omega⟩, h26, leI_trans (leI_lt h32) hb3, fun j hj hjl => ?_⟩ ⟨rfl, rfl, rfl, rfl, rfl, rfl, trivial⟩
        by_cases e : j = 2 * cur + 1 + n
        · rw [e]; exact leI_refl _
        · exact leI_trans (leI_lt h32) (hb4 j (by omega) hjl)
      · have h32' : ltB (gt ys (2 * cur + 1 + n)) (gt ys b) = false := by simpa using h32
        rw [h32']
        first | refine op_v (v_pickt rfl rfl) rfl ?_ | refine op_v (v_pickf rfl rfl) rfl ?_ | refine op_v (v_pickb rfl rfl rfl) rfl ?_
        refine ops_nil ?_
        refine post_next ?_
        refine code_cond_f rfl ?_
        refine code_skip ?_
        refine post_out ?_
        refine post_next ?_
        refine code_region ?_
        first | refine op_v (v_addb rfl rfl rfl (by omega)) rfl ?_ | refine op_v (v_add rfl rfl) rfl ?_
        refine op_v (v_move rfl) rfl ?_
        refine ops_nil ?_
        refine post_again (2 - (n + 1)) [(0, .pointer (some ⟨hb, 0, none⟩)), (1, .int .i64 cur), (4, .int .i64 b), (14, .slice (some ⟨b14, 0, none⟩) 2 2), (15, .int .i64 2), (16, .int .i64 (n + 1 : Nat))] (by omega) ⟨n + 1, b, rfl, hlt, rfl, Imm.leA, rfl, hb1, hb2, hb3, fun j hj hjl => ?_⟩ ⟨rfl, rfl, rfl, rfl, rfl, rfl, trivial⟩
        by_cases e : j = 2 * cur + 1 + n
        · rw [e]; exact leI_of h32'
        · exact hb4 j (by omega) hjl
    · first | refine op_v (v_cmptA rfl rfl rfl) rfl ?_ | refine op_v (v_cmpfA rfl rfl rfl) rfl ?_ | refine op_v (v_cmp rfl rfl rfl) rfl ?_
      refine op_v (v_move rfl) rfl ?_
      first
        | (refine op_want rfl rfl ?_
           refine op_v (v_move rfl) rfl ?_)
        | (refine op_skip rfl rfl (by simp [undef]) rfl ?_)
      first
        | (refine op_want rfl rfl ?_
           refine op_v (v_move rfl) rfl ?_)
        | (refine op_skip rfl rfl (by simp [undef]) rfl ?_)
      first
        | (refine op_want rfl rfl ?_
           refine op_v (v_move rfl) rfl ?_)
        | (refine op_skip rfl rfl (by simp [undef]) rfl ?_)
      first
        | (refine op_want rfl rfl ?_
           refine op_call pl63 rfl rfl ((less_does (i := 2 * cur + 1 + n) (k := b) h26 hb2 (by omega))) Parts.all ?_
           rintro v31 I31 _ hI31 ⟨rfl, rfl⟩
           rw [List.append_nil])
        | (refine op_skip rfl rfl (by simp [undef]) rfl ?_)
      first | refine op_v (v_pickt rfl rfl) rfl ?_ | refine op_v (v_pickf rfl rfl) rfl ?_ | refine op_v (v_pickb rfl rfl rfl) rfl ?_
      refine ops_nil ?_
      refine post_next ?_
      refine code_cond_f rfl ?_
      refine code_skip ?_
      refine post_out ?_
      refine post_next ?_
      refine code_region ?_
      first | refine op_v (v_addb rfl rfl rfl (by omega)) rfl ?_ | refine op_v (v_add rfl rfl) rfl ?_
      refine op_v (v_move rfl) rfl ?_
      refine ops_nil ?_
      refine post_again (2 - (n + 1)) [(0, .pointer (some ⟨hb, 0, none⟩)), (1, .int .i64 cur), (4, .int .i64 b), (14, .slice (some ⟨b14, 0, none⟩) 2 2), (15, .int .i64 2), (16, .int .i64 (n + 1 : Nat))] (by omega) ⟨n + 1, b, rfl, hlt, rfl, Imm.leA, rfl, hb1, hb2, hb3, fun j hj hjl => hb4 j (by omega) hjl⟩ ⟨rfl, rfl, rfl, rfl, rfl, rfl, trivial⟩
  · have hge : n = 2 := by have h := hc0; simp at h; omega
    subst hge
    refine code_exit ?_
    refine post_exit_then ?_
    refine post_exit_then ?_
    refine post_exit ?_
    refine post_next ?_
    refine code_seq ?_
    refine code_seq ?_
    refine code_region ?_
    refine op_v (v_move rfl) rfl ?_
    refine op_v (v_move rfl) rfl ?_
    by_cases h37 : b = cur
    · first | refine op_v (v_cmptA rfl rfl rfl) rfl ?_ | refine op_v (v_cmpfA rfl rfl rfl) rfl ?_ | refine op_v (v_cmp rfl rfl rfl) rfl ?_
      refine ops_nil ?_
      refine post_next ?_
      refine code_cond_t rfl ?_
      refine code_ret ?_
      refine post_ret_then ?_
      refine post_ret_block ?_
      refine post_ret_then ?_
      refine post_ret_block ?_
      exact post_ret (rs := []) rfl (List.Perm.refl _) .nil (List.Sublist.refl _) ⟨ys, mq, hperm, down_end hinv (fun j h0 h1 h2 => h37 ▸ hb4 j (by omega) h1), hok, rfl⟩
    · have hbc : 0 < b ∧ (b - 1) / 2 = cur := by rcases hb1 with h | h; exact absurd h h37; exact h
      first | refine op_v (v_cmptA rfl rfl rfl) rfl ?_ | refine op_v (v_cmpfA rfl rfl rfl) rfl ?_ | refine op_v (v_cmp rfl rfl rfl) rfl ?_
      refine ops_nil ?_
      refine post_next ?_
      refine code_cond_f rfl ?_
      refine code_skip ?_
      refine post_next ?_
      refine code_seq ?_
      refine code_region ?_
      refine op_v (v_move rfl) rfl ?_
      refine op_v (v_move rfl) rfl ?_
      refine op_v (v_move rfl) rfl ?_
      refine op_call pl56 rfl rfl ((swap_does (i := cur) (k := b) (by omega) hb2 (by omega) hok)) Parts.all ?_
      rintro v41 I41 _ hI41 ⟨mq', hok', rfl⟩
      rw [List.append_nil]
      refine ops_nil ?_
      refine post_next ?_
      refine code_region ?_
      refine op_v (v_move rfl) rfl ?_
      refine op_v (v_assign rfl) rfl ?_
      refine ops_nil ?_
      refine post_out ?_
      refine post_again (xs.length - b) [(0, .pointer (some ⟨hb, 0, none⟩)), (1, .int .i64 b)] (by omega) ⟨b, _, mq', rfl, rfl, Imm.leA, rfl, by omega, (swapL_perm (by omega) hb2).trans hperm, down_step hinv hbc.2 hbc.1 hb2 hb3 (fun j h0 h1 h2 => hb4 j (by omega) h1), hok'⟩ ⟨rfl, rfl, trivial⟩
end Go.Proofs.Ythbcdffldcdfoaa
/- Walks: a heap made, one more, the first one, one fewer. -/
set_option linter.unusedVariables false
set_option linter.unusedSimpArgs false
set_option linter.unnecessarySimpa false
/- short -/
namespace Go.Proofs.Ythbcdffldcdfoaa
open Go Lg

/-! ### plain -/
theorem gt_push {xs : List It} {x : It} {j : Nat} : gt (xs ++ [x]) j = if j < xs.length then gt xs j else if j = xs.length then x else (0, 0) := by
  unfold gt
  rw [List.getD_eq_getElem?_getD, List.getD_eq_getElem?_getD]
  by_cases h : j < xs.length
  · rw [if_pos h, List.getElem?_append_left h]
  · rw [if_neg h, List.getElem?_append_right (by omega)]
    by_cases e : j = xs.length
    · simp [e]
    · rw [if_neg e, List.getElem?_eq_none (by simp; omega)]; rfl
theorem gt_take {xs : List It} {n j : Nat} (h : j < n) : gt (xs.take n) j = gt xs j := by
  unfold gt
  rw [List.getD_eq_getElem?_getD, List.getD_eq_getElem?_getD, List.getElem?_take, if_pos h]
theorem mem_gt {xs : List It} {id : Int} : id ∈ xs.map (·.2) ↔ ∃ j, j < xs.length ∧ (gt xs j).2 = id := by
  rw [List.mem_map]
  constructor
  · rintro ⟨x, hx, rfl⟩
    obtain ⟨j, hj, rfl⟩ := List.getElem_of_mem hx
    exact ⟨j, hj, by rw [gt_at hj]⟩
  · rintro ⟨j, hj, rfl⟩
    exact ⟨xs[j], List.getElem_mem hj, by rw [gt_at hj]⟩
theorem AtOK.hasnt {xs : List It} {mp : Mp} (h : AtOK xs mp) {id : Int} (hn : id ∉ xs.map (·.2)) : mget mp id = none :=
  h.2 id fun j hj e => hn (mem_gt.2 ⟨j, hj, e⟩)
theorem AtOK.has {xs : List It} {mp : Mp} (h : AtOK xs mp) {id : Int} (hn : id ∈ xs.map (·.2)) : ∃ j, j < xs.length ∧ (gt xs j).2 = id ∧ mget mp id = some (.int .i64 (j : Nat)) := by
  obtain ⟨j, hj, e⟩ := mem_gt.1 hn
  exact ⟨j, hj, e, e ▸ h.1 j hj⟩
theorem AtOK.push {xs : List It} {mp mp' : Mp} {x : It} (h : AtOK xs mp) (hn : x.2 ∉ xs.map (·.2)) (hm : ∀ q, mget mp' q = if x.2 = q then some (.int .i64 xs.length) else mget mp q) : AtOK (xs ++ [x]) mp' := by
  constructor
  · intro j hj
    rw [List.length_append] at hj; simp at hj
    rw [gt_push, hm]
    by_cases e : j < xs.length
    · rw [if_pos e, if_neg (fun q => hn (mem_gt.2 ⟨j, e, q.symm⟩))]; exact h.1 j e
    · have : j = xs.length := by omega
      rw [if_neg e, if_pos this, if_pos rfl, this]
  · intro id hid
    have h1 := hid xs.length (by simp)
    rw [gt_push, if_neg (by omega), if_pos rfl] at h1
    rw [hm, if_neg h1]
    refine h.2 id fun j hj => ?_
    have := hid j (by simp; omega)
    rwa [gt_push, if_pos hj] at this
theorem up_push {xs : List It} (x : It) (h : IsHeap xs) : UpInv (xs ++ [x]) xs.length xs.length := by
  constructor
  · intro j h0 h1 hj _
    rw [List.length_append] at h1; simp at h1
    rw [gt_push, gt_push, if_pos (by omega), if_pos (by omega)]
    exact h j h0 (by omega)
  · intro j h0 h1 hj hp
    rw [List.length_append] at h1; simp at h1; omega
theorem heap_last {xs : List It} {n : Nat} (h : DownInv xs n) (hn : xs.length ≤ n + 1) : IsHeap xs := down_end h fun j h0 h1 h2 => by omega
def dropL (xs : List It) (i : Nat) : List It := (swapL xs i (xs.length - 1)).take (xs.length - 1)
theorem dropL_len (xs : List It) (i : Nat) : (dropL xs i).length = xs.length - 1 := by unfold dropL; rw [List.length_take, swapL_len]; omega
theorem gt_drop {xs : List It} {i : Nat} (hi : i < xs.length) {j : Nat} (hj : j < xs.length - 1) : gt (dropL xs i) j = if i = j then gt xs (xs.length - 1) else gt xs j := by
  unfold dropL
  rw [gt_take hj, gt_swap hi (by omega), if_neg (by omega)]
theorem dropL_perm {xs : List It} {i : Nat} (hi : i < xs.length) : xs.Perm (gt xs i :: dropL xs i) := by
  have h1 := (swapL_perm hi (show xs.length - 1 < xs.length by omega)).symm
  refine h1.trans ?_
  have e : swapL xs i (xs.length - 1) = dropL xs i ++ [gt xs i] := by
    unfold dropL
    have hl := swapL_len xs i (xs.length - 1)
    have h2 := List.take_append_drop (xs.length - 1) (swapL xs i (xs.length - 1))
    rw [List.drop_eq_getElem_cons (by omega), List.drop_eq_nil_of_le (by omega)] at h2
    have h3 := gt_at (xs := swapL xs i (xs.length - 1)) (j := xs.length - 1) (by omega)
    rw [gt_swap hi (by omega), if_pos rfl] at h3
    rw [← h3] at h2
    exact h2.symm
  rw [e]
  exact List.perm_append_comm
theorem dropL_up {xs : List It} {i : Nat} (h : IsHeap xs) (hi : i < xs.length - 1) : UpInv (dropL xs i) i i := by
  constructor
  · intro j h0 h1 hj hp
    rw [dropL_len] at h1
    rw [gt_drop (by omega) (by omega), gt_drop (by omega) h1, if_neg (by omega), if_neg (by omega)]
    exact h j h0 (by omega)
  · intro j h0 h1 hj hp
    rw [dropL_len] at h1
    rw [gt_drop (by omega) (by omega), gt_drop (by omega) h1, if_neg (by omega), if_neg (by omega)]
    exact leI_trans (h i hp (by omega)) (hj ▸ h j h0 (by omega))
theorem dropL_at {xs : List It} {mp mp1 mp2 : Mp} {i : Nat} (h : AtOK xs mp) (hi : i < xs.length) (h1 : AtOK (swapL xs i (xs.length - 1)) mp1) (hm : ∀ q, mget mp2 q = if q = (gt xs i).2 then none else mget mp1 q) : AtOK (dropL xs i) mp2 := by
  have hl := swapL_len xs i (xs.length - 1)
  have gl : gt (swapL xs i (xs.length - 1)) (xs.length - 1) = gt xs i := by rw [gt_swap hi (by omega), if_pos rfl]
  have ge : ∀ j, j < xs.length - 1 → gt (dropL xs i) j = gt (swapL xs i (xs.length - 1)) j := fun j hj => by unfold dropL; exact gt_take hj
  constructor
  · intro j hj
    rw [dropL_len] at hj
    rw [ge j hj, hm]
    have hne : (gt (swapL xs i (xs.length - 1)) j).2 ≠ (gt xs i).2 := fun e => by
      have := h1.inj (i := j) (j := xs.length - 1) (by omega) (by omega) (by rw [gl]; exact e)
      omega
    rw [if_neg hne]
    exact h1.1 j (by omega)
  · intro id hid
    rw [hm]
    split
    · rfl
    · rename_i hne
      refine h1.2 id fun j hj => ?_
      by_cases e : j = xs.length - 1
      · rw [e, gl]; exact fun q => hne q.symm
      · have := hid j (by rw [dropL_len]; omega)
        rwa [ge j (by omega)] at this
def PutH (xs : List It) (x : It) (e : Int) (ys : List It) : Prop := (x.2 ∈ xs.map (·.2) ∧ e = 1 ∧ ys = xs) ∨ (x.2 ∉ xs.map (·.2) ∧ 4096 ≤ xs.length ∧ e = 9 ∧ ys = xs) ∨ (x.2 ∉ xs.map (·.2) ∧ xs.length < 4096 ∧ e = 0 ∧ ys.Perm (xs ++ [x]))
def DropH (xs : List It) (id : Int) (b : Bool) (ys : List It) : Prop := (id ∉ xs.map (·.2) ∧ b = false ∧ ys = xs) ∨ ∃ x, x.2 = id ∧ b = true ∧ xs.Perm (x :: ys)
theorem Lg.side_twoA {I Ib : Imm} {δ : List Ent} {k : Nat} {A B : List Ent} {pend : Pend} (h0 : Ib.le I) (h1 : ∀ x ∈ A, x ∈ δ) (h2 : ∀ x ∈ B, x ∈ δ) : Side Ib I (two k A B) pend δ := fun p _ => ⟨h0, fun x hx => by unfold two at hx; cases hq : Nat.blt p.1 k <;> rw [hq] at hx; exact h2 x hx; exact h1 x hx⟩
/-! ### walks -/
theorem HNew_does (I : Imm) : Does Try.prog 23 [] I [] (fun v _ δ' => ∃ hb mb, v = .pointer (some ⟨hb, 0, none⟩) ∧ δ' = HeapE hb mb none 0 [] []) := by
  refine Does.intro Try.func23 rfl Try.ntmps23 rfl fun w0 => ?_
  refine code_seq ?_
  refine code_region ?_
  refine op_v (v_assign rfl) rfl ?_
  refine ops_nil ?_
  refine post_next ?_
  refine code_seq ?_
  refine code_region ?_
  refine o_makeMap rfl (fun b1 => ?_)
  refine op_v (v_build bl97 rfl rfl) rfl ?_
  refine o_box rfl rfl rfl (fun b3 => ?_)
  refine op_v (v_assign rfl) rfl ?_
  refine ops_nil ?_
  refine post_next ?_
  refine code_ret ?_
  refine PostJ.view ((View.nilRow 57 2).trans (View.perm (List.Perm.swap _ _ _))) (post_ret (rs := [.tmp 0]) rfl (List.Perm.refl _) (.cons (.tmp rfl) .nil) (List.Sublist.refl _) ⟨_, _, rfl, rfl⟩)
theorem HMin_does {I : Imm} {hb mb c : Nat} {A : Option Addr} {xs : List It} {mp : Mp} (hl : xs.length ≤ 1000000) :
    Does Try.prog 28 [.pointer (some ⟨hb, 0, none⟩)] I (HeapE hb mb A c xs mp) (fun v _ δ' => v = .tuple #[.agg #[.int .i64 (gt xs 0).1, .int .i64 (gt xs 0).2], .bool (decide (0 < xs.length))] ∧ δ' = HeapE hb mb A c xs mp) := by
  refine Does.intro Try.func28 rfl Try.ntmps28 rfl fun w0 => ?_
  refine code_seq ?_
  refine code_region ?_
  refine o_alloc z57 rfl rfl (fun b2 => ?_)
  refine op_v (v_assign rfl) rfl ?_
  refine ops_nil ?_
  refine post_next ?_
  refine code_seq ?_
  refine code_seq ?_
  refine code_region ?_
  refine op_v (v_move rfl) rfl ?_
  refine op_v (v_ptrq Try.underlying48 rfl rfl rfl) rfl ?_
  refine op_v (v_move rfl) rfl ?_
  first
    | (refine op_want rfl rfl ?_
       refine op_v (v_move rfl) rfl ?_)
    | (refine op_skip rfl rfl (by simp [undef]) rfl ?_)
  first
    | (refine op_want rfl rfl ?_
       refine op_v (v_nilCheck rfl) rfl ?_)
    | (refine op_skip rfl rfl (by simp [undef]) rfl ?_)
  first
    | (refine op_want rfl rfl ?_
       first | refine op_v (v_fieldB 0 Try.underlying97 rfl rfl fz51 rfl) rfl ?_ | refine op_v (v_fieldI 0 Try.underlying97 rfl rfl fz51 rfl (by assumption)) rfl ?_ | refine op_v (v_field Try.underlying97 rfl fz51 rfl rfl) rfl ?_)
    | (refine op_skip rfl rfl (by simp [undef]) rfl ?_)
  first
    | (refine op_want rfl rfl ?_
       refine op_v (v_loadA ty51 rfl rfl) rfl ?_)
    | (refine op_skip rfl rfl (by simp [undef]) rfl ?_)
  first
    | (refine op_want rfl rfl ?_
       refine op_v (v_len Try.underlying51 rfl) rfl ?_)
    | (refine op_skip rfl rfl (by simp [undef]) rfl ?_)
  by_cases h12 : xs.length = 0
  · first
      | (refine op_want rfl rfl ?_
         first | refine op_v (v_cmptA rfl rfl rfl) rfl ?_ | refine op_v (v_cmpfA rfl rfl rfl) rfl ?_ | refine op_v (v_cmp rfl rfl rfl) rfl ?_)
      | (refine op_skip rfl rfl (by simp [undef]) rfl ?_)
    first | refine op_v (v_pickt rfl rfl) rfl ?_ | refine op_v (v_pickf rfl rfl) rfl ?_ | refine op_v (v_pickb rfl rfl rfl) rfl ?_
    refine ops_nil ?_
    refine post_next ?_
    refine code_cond_t rfl ?_
    refine code_seq ?_
    refine code_region ?_
    refine op_v (v_build bl57 rfl rfl) rfl ?_
    refine o_store ty57 rfl rfl rfl rfl rfl (by repeat (first | exact Swap.here | apply Swap.there)) rfl ?_
    refine op_v (v_assign rfl) rfl ?_
    refine ops_nil ?_
    refine post_next ?_
    refine code_ret ?_
    refine post_ret_then ?_
    refine post_ret (rs := [.cell 2 57, .tmp 3]) rfl (List.Perm.refl _) (.cons (.cell rfl ty57 (by repeat (first | exact Has.here | apply Has.there)) rfl) (.cons (.tmp rfl) .nil)) (List.Sublist.cons _ (List.Sublist.refl _)) ?_
    have hx : xs = [] := List.eq_nil_of_length_eq_zero h12
    subst hx
    exact ⟨rfl, rfl⟩
  · first
      | (refine op_want rfl rfl ?_
         first | refine op_v (v_cmptA rfl rfl rfl) rfl ?_ | refine op_v (v_cmpfA rfl rfl rfl) rfl ?_ | refine op_v (v_cmp rfl rfl rfl) rfl ?_)
      | (refine op_skip rfl rfl (by simp [undef]) rfl ?_)
    first | refine op_v (v_pickt rfl rfl) rfl ?_ | refine op_v (v_pickf rfl rfl) rfl ?_ | refine op_v (v_pickb rfl rfl rfl) rfl ?_
    refine ops_nil ?_
    refine post_next ?_
    refine code_cond_f rfl ?_
    refine code_skip ?_
    refine post_next ?_
    refine code_seq ?_
    refine code_region ?_
    refine OpsJ.rowSome (Has.there (Has.there Has.here)) (by omega) (fun hA hcr => ?_)
    refine op_v (v_move rfl) rfl ?_
    refine op_v (v_nilCheck rfl) rfl ?_
    first | refine op_v (v_fieldB 0 Try.underlying97 rfl rfl fz51 rfl) rfl ?_ | refine op_v (v_fieldI 0 Try.underlying97 rfl rfl fz51 rfl (by assumption)) rfl ?_ | refine op_v (v_field Try.underlying97 rfl fz51 rfl rfl) rfl ?_
    refine op_v (v_loadA ty51 rfl rfl) rfl ?_
    first | refine op_v (v_indexA Try.underlying51 sz57 rfl rfl) rfl ?_ | refine op_v (v_indexIA Try.underlying51 sz57 rfl rfl) rfl ?_
    refine op_v (v_loadRow ty57 rfl (Has.there (Has.there Has.here)) hA (ld_it (i := 0) (by omega))) rfl ?_
    refine o_store ty57 rfl rfl rfl rfl rfl (by repeat (first | exact Swap.here | apply Swap.there)) rfl ?_
    refine op_v (v_assign rfl) rfl ?_
    refine ops_nil ?_
    refine post_next ?_
    refine code_ret ?_
    refine post_ret (rs := [.cell 2 57, .tmp 3]) rfl (List.Perm.refl _) (.cons (.cell rfl ty57 (by repeat (first | exact Has.here | apply Has.there)) rfl) (.cons (.tmp rfl) .nil)) (List.Sublist.cons _ (List.Sublist.refl _)) ?_
    exact ⟨by rw [show decide (0 < xs.length) = true by simp; omega]; rfl, rfl⟩
theorem HSize_does {I : Imm} {hb mb c : Nat} {A : Option Addr} {xs : List It} {mp : Mp} :
    Does Try.prog 30 [.pointer (some ⟨hb, 0, none⟩)] I (HeapE hb mb A c xs mp) (fun v _ δ' => v = .int .i64 xs.length ∧ δ' = HeapE hb mb A c xs mp) := by
  refine Does.intro Try.func30 rfl Try.ntmps30 rfl fun w0 => ?_
  refine code_seq ?_
  refine code_region ?_
  refine op_v (v_assign rfl) rfl ?_
  refine ops_nil ?_
  refine post_next ?_
  refine code_seq ?_
  refine code_seq ?_
  refine code_region ?_
  refine op_v (v_move rfl) rfl ?_
  refine op_v (v_ptrq (z := false) Try.underlying48 rfl rfl rfl) rfl ?_
  refine ops_nil ?_
  refine post_next ?_
  refine code_cond_f rfl ?_
  refine code_skip ?_
  refine post_next ?_
  refine code_seq ?_
  refine code_region ?_
  refine op_v (v_move rfl) rfl ?_
  refine op_v (v_nilCheck rfl) rfl ?_
  first | refine op_v (v_fieldB 0 Try.underlying97 rfl rfl fz51 rfl) rfl ?_ | refine op_v (v_fieldI 0 Try.underlying97 rfl rfl fz51 rfl (by assumption)) rfl ?_ | refine op_v (v_field Try.underlying97 rfl fz51 rfl rfl) rfl ?_
  refine op_v (v_loadA ty51 rfl rfl) rfl ?_
  refine op_v (v_len Try.underlying51 rfl) rfl ?_
  refine op_v (v_assign rfl) rfl ?_
  refine ops_nil ?_
  refine post_next ?_
  refine code_ret ?_
  refine post_ret (rs := [.tmp 2]) rfl (List.Perm.refl _) (.cons (.tmp rfl) .nil) (List.Sublist.refl _) ?_
  exact ⟨rfl, rfl⟩
theorem HPut_does {I : Imm} {hb mb c : Nat} {A : Option Addr} {xs : List It} {mp : Mp} {x : It} (hl : xs.length ≤ 4096) (hat : AtOK xs mp) (hh : IsHeap xs) :
    Does Try.prog 24 [.pointer (some ⟨hb, 0, none⟩), .agg #[.int .i64 x.1, .int .i64 x.2]] I (HeapE hb mb A c xs mp) (fun v _ δ' => ∃ e A' c' ys mq, v = .int .i64 e ∧ PutH xs x e ys ∧ ys.length ≤ 4096 ∧ AtOK ys mq ∧ IsHeap ys ∧ δ' = HeapE hb mb A' c' ys mq) := by
  refine Does.intro Try.func24 rfl Try.ntmps24 rfl fun w0 => ?_
  refine code_seq ?_
  refine code_region ?_
  refine o_box rfl rfl rfl (fun b3 => ?_)
  refine op_v (v_assign rfl) rfl ?_
  refine ops_nil ?_
  refine post_next ?_
  refine code_seq ?_
  refine code_seq ?_
  refine code_region ?_
  refine op_v (v_move rfl) rfl ?_
  refine op_v (v_ptrq (z := false) Try.underlying48 rfl rfl rfl) rfl ?_
  refine ops_nil ?_
  refine post_next ?_
  refine code_cond_f rfl ?_
  refine code_skip ?_
  refine post_next ?_
  refine code_seq ?_
  refine code_seq ?_
  refine code_draw (.fl 0 (.fl 1 (.fl 2 (.fl 3 (.fl 4 (.fl 5 (.ef 6 (.fl 7 (.fl 8 (.fl 9 (.ef 10 (.ef 11 .done)))))))))))) (fun _ => _) mixed (by kernel_rfl) (by kernel_rfl) (fun _ => (List.Sublist.refl _)) ?_
  refine e_fl rfl rfl (fun hs_ => PF.mk rfl (v_move rfl) hs_) ?_
  refine e_fl rfl rfl (fun hs_ => PF.mk rfl (v_nilCheck rfl) hs_) ?_
  first | refine e_fl rfl rfl (fun hs_ => PF.mk rfl (v_fieldB 1 Try.underlying97 rfl rfl fz95 rfl) hs_) ?_ | refine e_fl rfl rfl (fun hs_ => PF.mk rfl (v_fieldI 1 Try.underlying97 rfl rfl fz95 rfl (by assumption)) hs_) ?_ | refine e_fl rfl rfl (fun hs_ => PF.mk rfl (v_field Try.underlying97 rfl fz95 rfl rfl) hs_) ?_
  refine e_fl rfl rfl (fun hs_ => PF.mk rfl (v_loadA ty95 rfl rfl) hs_) ?_
  first | refine e_fl rfl rfl (fun hs_ => PF.mk rfl (v_fieldB 1 Try.underlying57 rfl rfl fz3 rfl) hs_) ?_ | refine e_fl rfl rfl (fun hs_ => PF.mk rfl (v_fieldI 1 Try.underlying57 rfl rfl fz3 rfl (by assumption)) hs_) ?_ | refine e_fl rfl rfl (fun hs_ => PF.mk rfl (v_field Try.underlying57 rfl fz3 rfl rfl) hs_) ?_
  refine e_fl rfl rfl (fun hs_ => PF.mk rfl (v_loadA ty3 rfl rfl) hs_) ?_
  refine e_eff rfl (by intro cs b hc; cases hc) (by intro c hc; cases hc) ?_
  refine op_v (v_mlook2 Try.underlying95 Try.underlying3 z3 rfl rfl (by repeat (first | exact Has.here | apply Has.there)) rfl rfl) rfl ?_
  refine ops_nil ?_
  refine e_next rfl side_allA ?_
  refine e_fl rfl rfl (fun hs_ => PF.mk rfl (v_move rfl) hs_) ?_
  refine e_fl rfl rfl (fun hs_ => PF.mk rfl (v_extract rfl rfl) hs_) ?_
  refine e_fl rfl rfl (fun hs_ => PF.mk rfl (v_extract rfl rfl) hs_) ?_
  refine e_eff rfl (by intro cs b hc; cases hc) (by intro c hc; cases hc) ?_
  refine op_v (v_assign rfl) rfl ?_
  refine ops_nil ?_
  refine e_next rfl side_allA ?_
  refine e_eff rfl (by intro cs b hc; cases hc) (by intro c hc; cases hc) ?_
  refine op_v (v_assign rfl) rfl ?_
  refine ops_nil ?_
  refine e_next rfl (side_nil (by kernel_rfl)) ?_
  refine e_done ?_
  refine post_next ?_
  refine code_seq ?_
  refine code_region ?_
  by_cases h19 : x.2 ∈ xs.map (·.2)
  · obtain ⟨j, hj, he, hm⟩ := hat.has h19
    rw [hm]
    refine op_v (v_move rfl) rfl ?_
    refine ops_nil ?_
    refine post_next ?_
    refine code_cond_t rfl ?_
    refine code_seq ?_
    refine code_region ?_
    refine op_v (v_assign rfl) rfl ?_
    refine ops_nil ?_
    refine post_next ?_
    refine code_ret ?_
    refine post_ret_then ?_
    refine post_ret (rs := [.tmp 4]) rfl (List.Perm.refl _) (.cons (.tmp rfl) .nil) (List.Sublist.cons _ (List.Sublist.refl _)) ?_
    exact ⟨1, A, c, xs, mp, rfl, .inl ⟨h19, rfl, rfl⟩, hl, hat, hh, rfl⟩
  · have hm := hat.hasnt h19
    rw [hm]
    refine op_v (v_move rfl) rfl ?_
    refine ops_nil ?_
    refine post_next ?_
    refine code_cond_f rfl ?_
    refine code_skip ?_
    refine post_next ?_
    refine code_seq ?_
    refine code_seq ?_
    refine code_region ?_
    refine op_v (v_move rfl) rfl ?_
    refine op_v (v_nilCheck rfl) rfl ?_
    first | refine op_v (v_fieldB 0 Try.underlying97 rfl rfl fz51 rfl) rfl ?_ | refine op_v (v_fieldI 0 Try.underlying97 rfl rfl fz51 rfl (by assumption)) rfl ?_ | refine op_v (v_field Try.underlying97 rfl fz51 rfl rfl) rfl ?_
    refine op_v (v_loadA ty51 rfl rfl) rfl ?_
    refine op_v (v_len Try.underlying51 rfl) rfl ?_
    by_cases h25 : 4096 ≤ xs.length
    · first | refine op_v (v_cmptA rfl rfl rfl) rfl ?_ | refine op_v (v_cmpfA rfl rfl rfl) rfl ?_ | refine op_v (v_cmp rfl rfl rfl) rfl ?_
      refine ops_nil ?_
      refine post_next ?_
      refine code_cond_t rfl ?_
      refine code_seq ?_
      refine code_region ?_
      refine op_v (v_assign rfl) rfl ?_
      refine ops_nil ?_
      refine post_next ?_
      refine code_ret ?_
      refine post_ret_then ?_
      refine post_ret (rs := [.tmp 4]) rfl (List.Perm.refl _) (.cons (.tmp rfl) .nil) (List.Sublist.cons _ (List.Sublist.refl _)) ?_
      exact ⟨9, A, c, xs, mp, rfl, .inr (.inl ⟨h19, h25, rfl, rfl⟩), hl, hat, hh, rfl⟩
    · first | refine op_v (v_cmptA rfl rfl rfl) rfl ?_ | refine op_v (v_cmpfA rfl rfl rfl) rfl ?_ | refine op_v (v_cmp rfl rfl rfl) rfl ?_
      refine ops_nil ?_
      refine post_next ?_
      refine code_cond_f rfl ?_
      refine code_skip ?_
      refine post_next ?_
      refine code_seq ?_
      refine code_draw (.fl 0 (.fl 1 (.fl 2 (.fl 3 (.fl 4 (.fl 5 (.fl 6 (.fl 7 (.fl 8 (.fl 9 (.fl 10 (.ef 11 .done)))))))))))) (fun _ => _) mixed (by kernel_rfl) (by kernel_rfl) (fun _ => (List.Sublist.refl _)) ?_
      refine e_fl rfl rfl (fun hs_ => PF.mk rfl (v_move rfl) hs_) ?_
      refine e_fl rfl rfl (fun hs_ => PF.mk rfl (v_nilCheck rfl) hs_) ?_
      first | refine e_fl rfl rfl (fun hs_ => PF.mk rfl (v_fieldB 1 Try.underlying97 rfl rfl fz95 rfl) hs_) ?_ | refine e_fl rfl rfl (fun hs_ => PF.mk rfl (v_fieldI 1 Try.underlying97 rfl rfl fz95 rfl (by assumption)) hs_) ?_ | refine e_fl rfl rfl (fun hs_ => PF.mk rfl (v_field Try.underlying97 rfl fz95 rfl rfl) hs_) ?_
      refine e_fl rfl rfl (fun hs_ => PF.mk rfl (v_loadA ty95 rfl rfl) hs_) ?_
      first | refine e_fl rfl rfl (fun hs_ => PF.mk rfl (v_fieldB 1 Try.underlying57 rfl rfl fz3 rfl) hs_) ?_ | refine e_fl rfl rfl (fun hs_ => PF.mk rfl (v_fieldI 1 Try.underlying57 rfl rfl fz3 rfl (by assumption)) hs_) ?_ | refine e_fl rfl rfl (fun hs_ => PF.mk rfl (v_field Try.underlying57 rfl fz3 rfl rfl) hs_) ?_
      refine e_fl rfl rfl (fun hs_ => PF.mk rfl (v_loadA ty3 rfl rfl) hs_) ?_
      refine e_fl rfl rfl (fun hs_ => PF.mk rfl (v_move rfl) hs_) ?_
      refine e_fl rfl rfl (fun hs_ => PF.mk rfl (v_nilCheck rfl) hs_) ?_
      first | refine e_fl rfl rfl (fun hs_ => PF.mk rfl (v_fieldB 0 Try.underlying97 rfl rfl fz51 rfl) hs_) ?_ | refine e_fl rfl rfl (fun hs_ => PF.mk rfl (v_fieldI 0 Try.underlying97 rfl rfl fz51 rfl (by assumption)) hs_) ?_ | refine e_fl rfl rfl (fun hs_ => PF.mk rfl (v_field Try.underlying97 rfl fz51 rfl rfl) hs_) ?_
      refine e_fl rfl rfl (fun hs_ => PF.mk rfl (v_loadA ty51 rfl rfl) hs_) ?_
      refine e_fl rfl rfl (fun hs_ => PF.mk rfl (v_len Try.underlying51 rfl) hs_) ?_
      refine e_eff rfl (by intro cs b hc; cases hc) (by intro c hc; cases hc) ?_
      refine o_mapUpdate Try.underlying95 Try.underlying3 rfl rfl rfl rfl (by repeat (first | exact Swap.here | apply Swap.there)) ?_
      refine ops_nil ?_
      refine e_next_ (side_nil (by kernel_rfl)) ?_
      refine e_done ?_
      refine post_next ?_
      refine code_seq ?_
      refine code_draw (.fl 0 (.fl 1 (.fl 2 (.fl 3 (.fl 4 (.fl 5 (.ef 6 (.ef 7 (.fl 8 (.fl 9 (.ef 10 .done))))))))))) (two 6 [.box b3 57 [.int .i64 x.1, .int .i64 x.2], .box hb 97 [.slice A xs.length c, .map (some mb)]] []) mixed (by kernel_rfl) (by kernel_rfl) (two_sub (List.Sublist.cons_cons _ (List.Sublist.cons_cons _ (List.nil_sublist _))) (List.nil_sublist _)) ?_
      refine e_float rfl rfl (fun hs_ => PF.mk rfl (v_move rfl) hs_) Imm.leA (by intro x hx; first | (change x ∈ [] at hx; cases hx) | (change x ∈ [_, _] at hx; simp only [List.mem_cons, List.not_mem_nil, or_false] at hx; rcases hx with h | h <;> subst h <;> simp [cellsL])) ?_
      refine e_float rfl rfl (fun hs_ => PF.mk rfl (v_move rfl) hs_) Imm.leA (by intro x hx; first | (change x ∈ [] at hx; cases hx) | (change x ∈ [_, _] at hx; simp only [List.mem_cons, List.not_mem_nil, or_false] at hx; rcases hx with h | h <;> subst h <;> simp [cellsL])) ?_
      refine e_float rfl rfl (fun hs_ => PF.mk rfl (v_nilCheck rfl) hs_) Imm.leA (by intro x hx; first | (change x ∈ [] at hx; cases hx) | (change x ∈ [_, _] at hx; simp only [List.mem_cons, List.not_mem_nil, or_false] at hx; rcases hx with h | h <;> subst h <;> simp [cellsL])) ?_
      first | refine e_float rfl rfl (fun hs_ => PF.mk rfl (v_fieldB 0 Try.underlying97 rfl rfl fz51 rfl) hs_) Imm.leA (by intro x hx; first | (change x ∈ [] at hx; cases hx) | (change x ∈ [_, _] at hx; simp only [List.mem_cons, List.not_mem_nil, or_false] at hx; rcases hx with h | h <;> subst h <;> simp [cellsL])) ?_ | refine e_float rfl rfl (fun hs_ => PF.mk rfl (v_fieldI 0 Try.underlying97 rfl rfl fz51 rfl (by assumption)) hs_) Imm.leA (by intro x hx; first | (change x ∈ [] at hx; cases hx) | (change x ∈ [_, _] at hx; simp only [List.mem_cons, List.not_mem_nil, or_false] at hx; rcases hx with h | h <;> subst h <;> simp [cellsL])) ?_ | refine e_float rfl rfl (fun hs_ => PF.mk rfl (v_field Try.underlying97 rfl fz51 rfl rfl) hs_) Imm.leA (by intro x hx; first | (change x ∈ [] at hx; cases hx) | (change x ∈ [_, _] at hx; simp only [List.mem_cons, List.not_mem_nil, or_false] at hx; rcases hx with h | h <;> subst h <;> simp [cellsL])) ?_
      refine e_float rfl rfl (fun hs_ => PF.mk rfl (v_loadA ty51 rfl rfl) hs_) Imm.leA (by intro x hx; first | (change x ∈ [] at hx; cases hx) | (change x ∈ [_, _] at hx; simp only [List.mem_cons, List.not_mem_nil, or_false] at hx; rcases hx with h | h <;> subst h <;> simp [cellsL])) ?_
      refine e_float rfl rfl (fun hs_ => PF.mk rfl (v_loadA ty57 rfl rfl) hs_) Imm.leA (by intro x hx; first | (change x ∈ [] at hx; cases hx) | (change x ∈ [_, _] at hx; simp only [List.mem_cons, List.not_mem_nil, or_false] at hx; rcases hx with h | h <;> subst h <;> simp [cellsL])) ?_
      refine e_eff rfl (by intro cs b hc; cases hc) (by intro c hc; cases hc) ?_
      refine o_buildSlice (xs := [(Go.Operand.tmp 42)]) Try.underlying51 bs57 rfl rfl rfl rfl rfl (fun b43 => ?_)
      refine ops_nil ?_
      refine e_next rfl (side_twoA (Imm.le_refl _) (by intro x hx; simp only [List.mem_cons, List.not_mem_nil, or_false] at hx; rcases hx with h | h <;> subst h <;> simp [cellsL]) (by intro x hx; cases hx)) ?_
      refine e_eff rfl (by intro cs b hc; cases hc) (by intro c hc; cases hc) ?_
      refine o_append Try.underlying51 bs57 rfl rfl rfl (fun v' => by repeat (first | exact Swap.here | apply Swap.there)) (Src.ofRow (by repeat (first | exact Has.here | apply Has.there)) rfl) (by first | rfl | omega | simp) (by simp [cat, cellsL, Value.oneCell']) (by omega) (by omega) (fun a44 c44 => ?_)
      refine ops_nil ?_
      refine e_next rfl (side_twoA (Imm.le_refl _) (by intro x hx; simp only [List.mem_cons, List.not_mem_nil, or_false] at hx; rcases hx with h | h <;> subst h <;> simp [cellsL]) (by intro x hx; cases hx)) ?_
      refine e_float rfl rfl (fun hs_ => PF.mk rfl (v_nilCheck rfl) hs_) Imm.leA (by intro x hx; first | (change x ∈ [] at hx; cases hx) | (change x ∈ [_, _] at hx; simp only [List.mem_cons, List.not_mem_nil, or_false] at hx; rcases hx with h | h <;> subst h <;> simp [cellsL])) ?_
      first | refine e_float rfl rfl (fun hs_ => PF.mk rfl (v_fieldB 0 Try.underlying97 rfl rfl fz51 rfl) hs_) Imm.leA (by intro x hx; first | (change x ∈ [] at hx; cases hx) | (change x ∈ [_, _] at hx; simp only [List.mem_cons, List.not_mem_nil, or_false] at hx; rcases hx with h | h <;> subst h <;> simp [cellsL])) ?_ | refine e_float rfl rfl (fun hs_ => PF.mk rfl (v_fieldI 0 Try.underlying97 rfl rfl fz51 rfl (by assumption)) hs_) Imm.leA (by intro x hx; first | (change x ∈ [] at hx; cases hx) | (change x ∈ [_, _] at hx; simp only [List.mem_cons, List.not_mem_nil, or_false] at hx; rcases hx with h | h <;> subst h <;> simp [cellsL])) ?_ | refine e_float rfl rfl (fun hs_ => PF.mk rfl (v_field Try.underlying97 rfl fz51 rfl rfl) hs_) Imm.leA (by intro x hx; first | (change x ∈ [] at hx; cases hx) | (change x ∈ [_, _] at hx; simp only [List.mem_cons, List.not_mem_nil, or_false] at hx; rcases hx with h | h <;> subst h <;> simp [cellsL])) ?_
      refine e_eff rfl (by intro cs b hc; cases hc) (by intro c hc; cases hc) ?_
      refine o_store ty51 rfl rfl rfl rfl rfl (by repeat (first | exact Swap.here | apply Swap.there)) rfl ?_
      refine ops_nil ?_
      refine e_next_ (side_two (by kernel_rfl) (Imm.le_refl _) (by intro x hx; cases hx)) ?_
      refine e_done ?_
      refine post_next ?_
      refine code_seq ?_
      refine code_region ?_
      refine OpsJ.view (View.drop Del.here) ?_
      have hln : (xs ++ [x]).length = xs.length + 1 := by simp
      have hδ : ([.box b3 57 [.int .i64 x.1, .int .i64 x.2], .box hb 97 [.slice a44 (xs.length + 1) c44, .map (some mb)], .row (.slice a44 (xs.length + 1) c44) 57 2 (xs.length + 1) (itL xs ++ cat [.agg #[.int .i64 x.1, .int .i64 x.2]]), .map mb (mput mp x.2 (.int .i64 xs.length))] : List Ent) = .box b3 57 [.int .i64 x.1, .int .i64 x.2] :: HeapE hb mb a44 c44 (xs ++ [x]) (mput mp x.2 (.int .i64 xs.length)) := by simp [HeapE, itL_snoc, cat, cellsL]
      refine OpsJ.view (View.perm (List.Perm.of_eq hδ)) ?_
      refine op_v (v_move rfl) rfl ?_
      refine op_v (v_move rfl) rfl ?_
      refine op_v (v_nilCheck rfl) rfl ?_
      first | refine op_v (v_fieldB 0 Try.underlying97 rfl rfl fz51 rfl) rfl ?_ | refine op_v (v_fieldI 0 Try.underlying97 rfl rfl fz51 rfl (by assumption)) rfl ?_ | refine op_v (v_field Try.underlying97 rfl fz51 rfl rfl) rfl ?_
      refine op_v (v_loadA ty51 rfl rfl) rfl ?_
      refine op_v (v_len Try.underlying51 rfl) rfl ?_
      refine op_v (v_subb (c := (xs.length : Nat)) rfl rfl (by omega) (by omega)) rfl ?_
      refine op_call pl54 rfl rfl ((up_does (by rw [hln]; omega) (by rw [hln]; omega) (hat.push h19 (fun q => mget_mput _ _ _ _)) (up_push x hh))) (List.perm_append_comm (l₁ := [_])) ?_
      rintro v54 I54 _ hI54 ⟨ys, mq, hperm, hdn, hok, rfl⟩
      refine OpsJ.view (View.perm (List.perm_append_comm (l₂ := [_]))) ?_
      have hyl := hperm.length_eq
      refine ops_nil ?_
      refine post_next ?_
      refine code_seq ?_
      refine code_region ?_
      refine op_v (v_assign rfl) rfl ?_
      refine ops_nil ?_
      refine post_next ?_
      refine code_ret ?_
      refine post_ret (rs := [.tmp 4]) rfl (List.Perm.refl _) (.cons (.tmp rfl) .nil) (List.Sublist.cons _ (List.Sublist.refl _)) ?_
      exact ⟨0, a44, c44, ys, mq, rfl, .inr (.inr ⟨h19, by omega, rfl, hperm⟩), by omega, hok, heap_last hdn (by omega), rfl⟩
end Go.Proofs.Ythbcdffldcdfoaa
/- Walks: one item fewer; nil heaps. -/
set_option linter.unusedVariables false
set_option linter.unusedSimpArgs false
set_option linter.unnecessarySimpa false
/- short -/
namespace Go.Proofs.Ythbcdffldcdfoaa
open Go Lg

theorem dropL_heap {xs : List It} {i : Nat} (h : IsHeap xs) (hi : i < xs.length) (he : ¬ i < xs.length - 1) : IsHeap (dropL xs i) := fun j h0 h1 => by
  rw [dropL_len] at h1
  rw [gt_drop hi (by omega), gt_drop hi h1, if_neg (by omega), if_neg (by omega)]
  exact h j h0 (by omega)
theorem HDrop_does {I : Imm} {hb mb c : Nat} {A : Option Addr} {xs : List It} {mp : Mp} {id : Int} (hl : xs.length ≤ 4096) (hat : AtOK xs mp) (hh : IsHeap xs) :
    Does Try.prog 26 [.pointer (some ⟨hb, 0, none⟩), .int .i64 id] I (HeapE hb mb A c xs mp) (fun v _ δ' => ∃ b ys mq, v = .bool b ∧ DropH xs id b ys ∧ ys.length ≤ 4096 ∧ AtOK ys mq ∧ IsHeap ys ∧ δ' = HeapE hb mb A c ys mq) := by
  refine Does.intro Try.func26 rfl Try.ntmps26 rfl fun w0 => ?_
  refine code_seq ?_
  refine code_region ?_
  refine op_v (v_assign rfl) rfl ?_
  refine ops_nil ?_
  refine post_next ?_
  refine code_seq ?_
  refine code_seq ?_
  refine code_region ?_
  refine op_v (v_move rfl) rfl ?_
  refine op_v (v_ptrq (z := false) Try.underlying48 rfl rfl rfl) rfl ?_
  refine ops_nil ?_
  refine post_next ?_
  refine code_cond_f rfl ?_
  refine code_skip ?_
  refine post_next ?_
  refine code_seq ?_
  refine code_region ?_
  refine op_v (v_move rfl) rfl ?_
  refine op_v (v_nilCheck rfl) rfl ?_
  first | refine op_v (v_fieldB 1 Try.underlying97 rfl rfl fz95 rfl) rfl ?_ | refine op_v (v_fieldI 1 Try.underlying97 rfl rfl fz95 rfl (by assumption)) rfl ?_ | refine op_v (v_field Try.underlying97 rfl fz95 rfl rfl) rfl ?_
  refine op_v (v_loadA ty95 rfl rfl) rfl ?_
  refine op_v (v_move rfl) rfl ?_
  by_cases h16 : id ∈ xs.map (·.2)
  · obtain ⟨j, hj, he, hm⟩ := hat.has h16
    refine op_v (v_mlook2 (v := .int .i64 (j : Nat)) (g := true) Try.underlying95 Try.underlying3 z3 rfl rfl (Has.there (Has.there Has.here)) (by rw [hm]; rfl) (by rw [hm]; rfl)) rfl ?_
    refine op_v (v_move rfl) rfl ?_
    refine op_v (v_extract rfl rfl) rfl ?_
    refine op_v (v_extract rfl rfl) rfl ?_
    refine op_v (v_assign rfl) rfl ?_
    refine op_v (v_assign rfl) rfl ?_
    refine ops_nil ?_
    refine post_next ?_
    refine code_seq ?_
    refine code_seq ?_
    refine code_region ?_
    refine op_v (v_move rfl) rfl ?_
    refine op_v (v_not rfl) rfl ?_
    refine ops_nil ?_
    refine post_next ?_
    refine code_cond_f rfl ?_
    refine code_skip ?_
    refine post_next ?_
    refine code_seq ?_
    refine code_region ?_
    refine op_v (v_move rfl) rfl ?_
    refine op_v (v_nilCheck rfl) rfl ?_
    first | refine op_v (v_fieldB 0 Try.underlying97 rfl rfl fz51 rfl) rfl ?_ | refine op_v (v_fieldI 0 Try.underlying97 rfl rfl fz51 rfl (by assumption)) rfl ?_ | refine op_v (v_field Try.underlying97 rfl fz51 rfl rfl) rfl ?_
    refine op_v (v_loadA ty51 rfl rfl) rfl ?_
    refine op_v (v_len Try.underlying51 rfl) rfl ?_
    refine op_v (v_subb (c := ((xs.length - 1 : Nat) : Int)) rfl rfl (by omega) (by omega)) rfl ?_
    refine op_v (v_assign rfl) rfl ?_
    refine ops_nil ?_
    refine post_next ?_
    refine code_seq ?_
    refine code_region ?_
    refine OpsJ.rowSome (Has.there Has.here) (by omega) (fun hA hcr => ?_)
    refine op_v (v_move rfl) rfl ?_
    refine op_v (v_move rfl) rfl ?_
    refine op_v (v_move rfl) rfl ?_
    refine op_call pl56 rfl rfl ((swap_does (i := j) (k := xs.length - 1) hj (by omega) (by omega) hat)) Parts.all ?_
    rintro v30 I30 _ hI30 ⟨mp1, hat1, rfl⟩
    rw [List.append_nil]
    have hsl := swapL_len xs j (xs.length - 1)
    refine OpsJ.view (View.perm (List.Perm.of_eq (show HeapE hb mb A c (swapL xs j (xs.length - 1)) mp1 = [.box hb 97 [.slice A xs.length c, .map (some mb)], .row (.slice A xs.length c) 57 2 xs.length (itL (swapL xs j (xs.length - 1))), .map mb mp1] by simp only [HeapE, hsl]))) ?_
    refine ops_nil ?_
    refine post_next ?_
    refine code_seq ?_
    refine code_region ?_
    refine op_v (v_move rfl) rfl ?_
    refine op_v (v_move rfl) rfl ?_
    refine op_v (v_nilCheck rfl) rfl ?_
    first | refine op_v (v_fieldB 0 Try.underlying97 rfl rfl fz51 rfl) rfl ?_ | refine op_v (v_fieldI 0 Try.underlying97 rfl rfl fz51 rfl (by assumption)) rfl ?_ | refine op_v (v_field Try.underlying97 rfl fz51 rfl rfl) rfl ?_
    refine op_v (v_loadA ty51 rfl rfl) rfl ?_
    refine op_v (v_move rfl) rfl ?_
    refine op_v (v_sliceTo Try.underlying51 sz57 rfl rfl (by omega)) rfl ?_
    refine op_v (v_nilCheck rfl) rfl ?_
    first | refine op_v (v_fieldB 0 Try.underlying97 rfl rfl fz51 rfl) rfl ?_ | refine op_v (v_fieldI 0 Try.underlying97 rfl rfl fz51 rfl (by assumption)) rfl ?_ | refine op_v (v_field Try.underlying97 rfl fz51 rfl rfl) rfl ?_
    refine o_store ty51 rfl rfl rfl rfl rfl (by repeat (first | exact Swap.here | apply Swap.there)) rfl ?_
    refine ops_nil ?_
    refine post_next ?_
    refine code_seq ?_
    refine code_region ?_
    refine OpsJ.view (View.short (h := xs.length - 1) _ (Swap.there Swap.here) (Nat.sub_le _ _)) ?_
    refine op_v (v_move rfl) rfl ?_
    refine op_v (v_nilCheck rfl) rfl ?_
    first | refine op_v (v_fieldB 1 Try.underlying97 rfl rfl fz95 rfl) rfl ?_ | refine op_v (v_fieldI 1 Try.underlying97 rfl rfl fz95 rfl (by assumption)) rfl ?_ | refine op_v (v_field Try.underlying97 rfl fz95 rfl rfl) rfl ?_
    refine op_v (v_loadA ty95 rfl rfl) rfl ?_
    refine op_v (v_move rfl) rfl ?_
    refine o_delete (δ' := fun ys => [.box hb 97 [.slice A (xs.length - 1 : Nat) c, .map (some mb)], .row (.slice A (xs.length - 1) c) 57 2 (xs.length - 1) ((itL (swapL xs j (xs.length - 1))).take ((xs.length - 1) * 2)), .map mb ys]) Try.underlying95 Try.underlying3 (by rfl) (by rfl) (fun _ => Swap.there (Swap.there Swap.here)) (fun mp2 hm2 => ?_)
    have hdl := dropL_len xs j
    have hat2 : AtOK (dropL xs j) mp2 := dropL_at hat hj hat1 (fun q => by rw [he]; exact hm2 q)
    refine OpsJ.view (View.perm (List.Perm.of_eq (show ([.box hb 97 [.slice A (xs.length - 1 : Nat) c, .map (some mb)], .row (.slice A (xs.length - 1) c) 57 2 (xs.length - 1) ((itL (swapL xs j (xs.length - 1))).take ((xs.length - 1) * 2)), .map mb mp2] : List Ent) = HeapE hb mb A c (dropL xs j) mp2 by simp only [HeapE, hdl]; rw [show itL (dropL xs j) = (itL (swapL xs j (xs.length - 1))).take ((xs.length - 1) * 2) from itL_take _ _]))) ?_
    refine ops_nil ?_
    refine post_next ?_
    refine code_seq ?_
    refine code_seq ?_
    refine code_region ?_
    refine op_v (v_move rfl) rfl ?_
    refine op_v (v_move rfl) rfl ?_
    by_cases h47 : j < xs.length - 1
    · first | refine op_v (v_cmptA rfl rfl rfl) rfl ?_ | refine op_v (v_cmpfA rfl rfl rfl) rfl ?_ | refine op_v (v_cmp rfl rfl rfl) rfl ?_
      refine ops_nil ?_
      refine post_next ?_
      refine code_cond_t rfl ?_
      refine code_seq ?_
      refine code_region ?_
      refine op_v (v_move rfl) rfl ?_
      refine op_v (v_move rfl) rfl ?_
      refine op_call pl54 rfl rfl ((up_does (i := j) (by omega) (by omega) hat2 (dropL_up hh h47))) Parts.all ?_
      rintro v50 I50 _ hI50 ⟨ys, mq, hp1, hdn, hok1, rfl⟩
      rw [List.append_nil]
      have hy1 := hp1.length_eq
      refine ops_nil ?_
      refine post_next ?_
      refine code_region ?_
      refine op_v (v_move rfl) rfl ?_
      refine op_v (v_move rfl) rfl ?_
      refine op_call pl57 rfl rfl ((down_does (i := j) (by omega) (by omega) hok1 hdn)) Parts.all ?_
      rintro v53 I53 _ hI53 ⟨zs, mr, hp2, hhp, hok2, rfl⟩
      rw [List.append_nil]
      have hy2 := hp2.length_eq
      refine ops_nil ?_
      refine post_next ?_
      refine code_seq ?_
      refine code_region ?_
      refine op_v (v_assign rfl) rfl ?_
      refine ops_nil ?_
      refine post_next ?_
      refine code_ret ?_
      refine post_ret (rs := [.tmp 4]) rfl (List.Perm.refl _) (.cons (.tmp rfl) .nil) (List.Sublist.refl _) ?_
      exact ⟨true, zs, mr, rfl, .inr ⟨gt xs j, he, rfl, (dropL_perm hj).trans ((hp2.trans hp1).symm.cons _)⟩, by omega, hok2, hhp, rfl⟩
    · first | refine op_v (v_cmptA rfl rfl rfl) rfl ?_ | refine op_v (v_cmpfA rfl rfl rfl) rfl ?_ | refine op_v (v_cmp rfl rfl rfl) rfl ?_
      refine ops_nil ?_
      refine post_next ?_
      refine code_cond_f rfl ?_
      refine code_skip ?_
      refine post_next ?_
      refine code_seq ?_
      refine code_region ?_
      refine op_v (v_assign rfl) rfl ?_
      refine ops_nil ?_
      refine post_next ?_
      refine code_ret ?_
      refine post_ret (rs := [.tmp 4]) rfl (List.Perm.refl _) (.cons (.tmp rfl) .nil) (List.Sublist.refl _) ?_
      exact ⟨true, _, mp2, rfl, .inr ⟨gt xs j, he, rfl, dropL_perm hj⟩, by omega, hat2, dropL_heap hh hj h47, rfl⟩
  · have hm := hat.hasnt h16
    refine op_v (v_mlook2 (v := .int .i64 0) (g := false) Try.underlying95 Try.underlying3 z3 rfl rfl (Has.there (Has.there Has.here)) (by rw [hm]; rfl) (by rw [hm]; rfl)) rfl ?_
    refine op_v (v_move rfl) rfl ?_
    refine op_v (v_extract rfl rfl) rfl ?_
    refine op_v (v_extract rfl rfl) rfl ?_
    refine op_v (v_assign rfl) rfl ?_
    refine op_v (v_assign rfl) rfl ?_
    refine ops_nil ?_
    refine post_next ?_
    refine code_seq ?_
    refine code_seq ?_
    refine code_region ?_
    refine op_v (v_move rfl) rfl ?_
    refine op_v (v_not rfl) rfl ?_
    refine ops_nil ?_
    refine post_next ?_
    refine code_cond_t rfl ?_
    refine code_seq ?_
    refine code_region ?_
    refine op_v (v_assign rfl) rfl ?_
    refine ops_nil ?_
    refine post_next ?_
    refine code_ret ?_
    refine post_ret_then ?_
    refine post_ret (rs := [.tmp 4]) rfl (List.Perm.refl _) (.cons (.tmp rfl) .nil) (List.Sublist.refl _) ?_
    exact ⟨false, xs, mp, rfl, .inl ⟨h16, rfl, rfl⟩, hl, hat, hh, rfl⟩
/-! ### nil -/
theorem MinN_does (I : Imm) : Does Try.prog 28 [.pointer none] I [] (fun v _ δ' => v = .tuple #[.agg #[.int .i64 0, .int .i64 0], .bool false] ∧ δ' = []) := by
  refine Does.intro Try.func28 rfl Try.ntmps28 rfl fun w0 => ?_
  refine code_seq ?_
  refine code_region ?_
  refine o_alloc z57 rfl rfl (fun b2 => ?_)
  refine op_v (v_assign rfl) rfl ?_
  refine ops_nil ?_
  refine post_next ?_
  refine code_seq ?_
  refine code_seq ?_
  refine code_region ?_
  refine op_v (v_move rfl) rfl ?_
  refine op_v (v_ptrq (z := true) Try.underlying48 rfl rfl rfl) rfl ?_
  refine op_v (v_move rfl) rfl ?_
  first
    | (refine op_want rfl rfl ?_
       refine op_v (v_move rfl) rfl ?_)
    | (refine op_skip rfl rfl (by simp [undef]) rfl ?_)
  first
    | (refine op_want rfl rfl ?_
       refine op_v (v_nilCheck rfl) rfl ?_)
    | (refine op_skip rfl rfl (by simp [undef]) rfl ?_)
  first
    | (refine op_want rfl rfl ?_
       first | refine op_v (v_fieldB 0 Try.underlying97 rfl rfl fz51 rfl) rfl ?_ | refine op_v (v_fieldI 0 Try.underlying97 rfl rfl fz51 rfl (by assumption)) rfl ?_ | refine op_v (v_field Try.underlying97 rfl fz51 rfl rfl) rfl ?_)
    | (refine op_skip rfl rfl (by simp [undef]) rfl ?_)
  first
    | (refine op_want rfl rfl ?_
       refine op_v (v_loadA ty51 rfl rfl) rfl ?_)
    | (refine op_skip rfl rfl (by simp [undef]) rfl ?_)
  first
    | (refine op_want rfl rfl ?_
       refine op_v (v_len Try.underlying51 rfl) rfl ?_)
    | (refine op_skip rfl rfl (by simp [undef]) rfl ?_)
  first
    | (refine op_want rfl rfl ?_
       first | refine op_v (v_cmptA rfl rfl rfl) rfl ?_ | refine op_v (v_cmpfA rfl rfl rfl) rfl ?_ | refine op_v (v_cmp rfl rfl rfl) rfl ?_)
    | (refine op_skip rfl rfl (by simp [undef]) rfl ?_)
  first | refine op_v (v_pickt rfl rfl) rfl ?_ | refine op_v (v_pickf rfl rfl) rfl ?_ | refine op_v (v_pickb rfl rfl rfl) rfl ?_
  refine ops_nil ?_
  refine post_next ?_
  refine code_cond_t rfl ?_
  refine code_seq ?_
  refine code_region ?_
  refine op_v (v_build bl57 rfl rfl) rfl ?_
  refine o_store ty57 rfl rfl rfl rfl rfl (by repeat (first | exact Swap.here | apply Swap.there)) rfl ?_
  refine op_v (v_assign rfl) rfl ?_
  refine ops_nil ?_
  refine post_next ?_
  refine code_ret ?_
  refine post_ret_then ?_
  refine post_ret (rs := [.cell 2 57, .tmp 3]) rfl (List.Perm.refl _) (.cons (.cell rfl ty57 (by repeat (first | exact Has.here | apply Has.there)) rfl) (.cons (.tmp rfl) .nil)) (List.nil_sublist _) ?_
  exact ⟨rfl, rfl⟩
theorem PutN_does (I : Imm) (a b : Int) : Does Try.prog 24 [.pointer none, .agg #[.int .i64 a, .int .i64 b]] I [] (fun v _ δ' => v = .int .i64 3 ∧ δ' = []) := by
  refine Does.intro Try.func24 rfl Try.ntmps24 rfl fun w0 => ?_
  refine code_seq ?_
  refine code_region ?_
  refine o_box rfl rfl rfl (fun b3 => ?_)
  refine op_v (v_assign rfl) rfl ?_
  refine ops_nil ?_
  refine post_next ?_
  refine code_seq ?_
  refine code_seq ?_
  refine code_region ?_
  refine op_v (v_move rfl) rfl ?_
  refine op_v (v_ptrq (z := true) Try.underlying48 rfl rfl rfl) rfl ?_
  refine ops_nil ?_
  refine post_next ?_
  refine code_cond_t rfl ?_
  refine code_seq ?_
  refine code_region ?_
  refine op_v (v_assign rfl) rfl ?_
  refine ops_nil ?_
  refine post_next ?_
  refine code_ret ?_
  refine post_ret_then ?_
  refine post_ret (rs := [.tmp 4]) rfl (List.Perm.refl _) (.cons (.tmp rfl) .nil) (List.nil_sublist _) ?_
  exact ⟨rfl, rfl⟩
theorem DropN_does (I : Imm) (a : Int) : Does Try.prog 26 [.pointer none, .int .i64 a] I [] (fun v _ δ' => v = .bool false ∧ δ' = []) := by
  refine Does.intro Try.func26 rfl Try.ntmps26 rfl fun w0 => ?_
  refine code_seq ?_
  refine code_region ?_
  refine op_v (v_assign rfl) rfl ?_
  refine ops_nil ?_
  refine post_next ?_
  refine code_seq ?_
  refine code_seq ?_
  refine code_region ?_
  refine op_v (v_move rfl) rfl ?_
  refine op_v (v_ptrq (z := true) Try.underlying48 rfl rfl rfl) rfl ?_
  refine ops_nil ?_
  refine post_next ?_
  refine code_cond_t rfl ?_
  refine code_seq ?_
  refine code_region ?_
  refine op_v (v_assign rfl) rfl ?_
  refine ops_nil ?_
  refine post_next ?_
  refine code_ret ?_
  refine post_ret_then ?_
  refine post_ret (rs := [.tmp 4]) rfl (List.Perm.refl _) (.cons (.tmp rfl) .nil) (List.nil_sublist _) ?_
  exact ⟨rfl, rfl⟩
theorem SizeN_does (I : Imm) : Does Try.prog 30 [.pointer none] I [] (fun v _ δ' => v = .int .i64 0 ∧ δ' = []) := by
  refine Does.intro Try.func30 rfl Try.ntmps30 rfl fun w0 => ?_
  refine code_seq ?_
  refine code_region ?_
  refine op_v (v_assign rfl) rfl ?_
  refine ops_nil ?_
  refine post_next ?_
  refine code_seq ?_
  refine code_seq ?_
  refine code_region ?_
  refine op_v (v_move rfl) rfl ?_
  refine op_v (v_ptrq (z := true) Try.underlying48 rfl rfl rfl) rfl ?_
  refine ops_nil ?_
  refine post_next ?_
  refine code_cond_t rfl ?_
  refine code_seq ?_
  refine code_region ?_
  refine op_v (v_assign rfl) rfl ?_
  refine ops_nil ?_
  refine post_next ?_
  refine code_ret ?_
  refine post_ret_then ?_
  refine post_ret (rs := [.tmp 2]) rfl (List.Perm.refl _) (.cons (.tmp rfl) .nil) (List.nil_sublist _) ?_
  exact ⟨rfl, rfl⟩
theorem QPutN_does (I : Imm) (a b : Int) : Does Try.prog 34 [.pointer none, .int .i64 a, .int .i64 b] I [] (fun v _ δ' => v = .int .i64 3 ∧ δ' = []) := by
  refine Does.intro Try.func34 rfl Try.ntmps34 rfl fun w0 => ?_
  refine code_seq ?_
  refine code_region ?_
  refine op_v (v_assign rfl) rfl ?_
  refine ops_nil ?_
  refine post_next ?_
  refine code_seq ?_
  refine code_seq ?_
  refine code_region ?_
  refine op_v (v_move rfl) rfl ?_
  refine op_v (v_ptrq (z := true) Try.underlying62 rfl rfl rfl) rfl ?_
  refine ops_nil ?_
  refine post_next ?_
  refine code_cond_t rfl ?_
  refine code_seq ?_
  refine code_region ?_
  refine op_v (v_assign rfl) rfl ?_
  refine ops_nil ?_
  refine post_next ?_
  refine code_ret ?_
  refine post_ret_then ?_
  refine post_ret (rs := [.tmp 6]) rfl (List.Perm.refl _) (.cons (.tmp rfl) .nil) (List.nil_sublist _) ?_
  exact ⟨rfl, rfl⟩
theorem QNextN_does (I : Imm) : Does Try.prog 35 [.pointer none] I [] (fun v _ δ' => v = .tuple #[.int .i64 0, .bool false] ∧ δ' = []) := by
  refine Does.intro Try.func35 rfl Try.ntmps35 rfl fun w0 => ?_
  refine code_seq ?_
  refine code_region ?_
  refine op_v (v_assign rfl) rfl ?_
  refine op_v (v_assign rfl) rfl ?_
  refine ops_nil ?_
  refine post_next ?_
  refine code_seq ?_
  refine code_seq ?_
  refine code_region ?_
  refine op_v (v_move rfl) rfl ?_
  refine op_v (v_ptrq (z := true) Try.underlying62 rfl rfl rfl) rfl ?_
  refine ops_nil ?_
  refine post_next ?_
  refine code_cond_t rfl ?_
  refine code_seq ?_
  refine code_region ?_
  refine op_v (v_assign rfl) rfl ?_
  refine op_v (v_assign rfl) rfl ?_
  refine ops_nil ?_
  refine post_next ?_
  refine code_ret ?_
  refine post_ret_then ?_
  refine post_ret (rs := [.tmp 2, .tmp 3]) rfl (List.Perm.refl _) (.cons (.tmp rfl) (.cons (.tmp rfl) .nil)) (List.nil_sublist _) ?_
  exact ⟨rfl, rfl⟩
theorem QDropN_does (I : Imm) (a : Int) : Does Try.prog 37 [.pointer none, .int .i64 a] I [] (fun v _ δ' => v = .bool false ∧ δ' = []) := by
  refine Does.intro Try.func37 rfl Try.ntmps37 rfl fun w0 => ?_
  refine code_seq ?_
  refine code_region ?_
  refine op_v (v_assign rfl) rfl ?_
  refine ops_nil ?_
  refine post_next ?_
  refine code_seq ?_
  refine code_seq ?_
  refine code_region ?_
  refine op_v (v_move rfl) rfl ?_
  refine op_v (v_ptrq (z := true) Try.underlying62 rfl rfl rfl) rfl ?_
  refine ops_nil ?_
  refine post_next ?_
  refine code_cond_t rfl ?_
  refine code_seq ?_
  refine code_region ?_
  refine op_v (v_assign rfl) rfl ?_
  refine ops_nil ?_
  refine post_next ?_
  refine code_ret ?_
  refine post_ret_then ?_
  refine post_ret (rs := [.tmp 4]) rfl (List.Perm.refl _) (.cons (.tmp rfl) .nil) (List.nil_sublist _) ?_
  exact ⟨rfl, rfl⟩
theorem QSizeN_does (I : Imm) : Does Try.prog 38 [.pointer none] I [] (fun v _ δ' => v = .int .i64 0 ∧ δ' = []) := by
  refine Does.intro Try.func38 rfl Try.ntmps38 rfl fun w0 => ?_
  refine code_seq ?_
  refine code_region ?_
  refine op_v (v_assign rfl) rfl ?_
  refine ops_nil ?_
  refine post_next ?_
  refine code_seq ?_
  refine code_seq ?_
  refine code_region ?_
  refine op_v (v_move rfl) rfl ?_
  refine op_v (v_ptrq (z := true) Try.underlying62 rfl rfl rfl) rfl ?_
  refine ops_nil ?_
  refine post_next ?_
  refine code_cond_t rfl ?_
  refine code_seq ?_
  refine code_region ?_
  refine op_v (v_assign rfl) rfl ?_
  refine ops_nil ?_
  refine post_next ?_
  refine code_ret ?_
  refine post_ret_then ?_
  refine post_ret (rs := [.tmp 2]) rfl (List.Perm.refl _) (.cons (.tmp rfl) .nil) (List.nil_sublist _) ?_
  exact ⟨rfl, rfl⟩
end Go.Proofs.Ythbcdffldcdfoaa
/- Walks: a queue made, one more, one fewer. -/
set_option linter.unusedVariables false
set_option linter.unusedSimpArgs false
set_option linter.unnecessarySimpa false
/- short -/
namespace Go.Proofs.Ythbcdffldcdfoaa
open Go Lg

structure Qa where
  qb : Nat
  ha : Nat
  ma : Nat
  hw : Nat
  mw : Nat
abbrev qBox (q : Qa) (a w told : Nat) : Ent := .box q.qb 104 [.pointer (some ⟨q.ha, 0, none⟩), .int .i64 a, .pointer (some ⟨q.hw, 0, none⟩), .int .i64 w, .int .i64 told]
/-- a queue: what stands in its heaps -/
structure QOK (xs ys : List It) (mp mq : Mp) : Prop where
  same : (xs.map (·.2)).Perm (ys.map (·.2))
  eq : ∀ x ∈ xs, x.1 = x.2
  lx : xs.length ≤ 4096
  ox : AtOK xs mp
  hx : IsHeap xs
  oy : AtOK ys mq
  hy : IsHeap ys
theorem QOK.len {xs ys : List It} {mp mq : Mp} (h : QOK xs ys mp mq) : xs.length = ys.length := by have := h.same.length_eq; simpa using this
def QE (q : Qa) (a w told : Nat) (ys : List It) (δ : List Ent) : Prop := ∃ Aa ca xs mp Aw cw mq, QOK xs ys mp mq ∧ δ = qBox q a w told :: (HeapE q.ha q.ma Aa ca xs mp ++ HeapE q.hw q.mw Aw cw ys mq)
theorem nodup_ids {xs : List It} {mp : Mp} (h : AtOK xs mp) : (xs.map (·.2)).Nodup := by
  refine List.pairwise_iff_getElem.2 fun i j hi hj hij e => ?_
  simp only [List.length_map] at hi hj
  simp only [List.getElem_map] at e
  have := h.inj hi hj (by rw [gt_at hi, gt_at hj]; exact e)
  omega
theorem Ratio_does {I : Imm} {a w : Int} :
    Does Try.prog 32 [.int .i64 a, .int .i64 w] I [] (fun v _ δ' => ((a < 0 ∨ w < 0 ∨ 16 < a ∨ 16 < w ∨ a + w = 0) ∧ v = .tuple #[.pointer none, .int .i64 1] ∧ δ' = []) ∨ (¬ (a < 0 ∨ w < 0 ∨ 16 < a ∨ 16 < w ∨ a + w = 0) ∧ ∃ q, v = .tuple #[.pointer (some ⟨q.qb, 0, none⟩), .int .i64 0] ∧ QE q a.toNat w.toNat 0 [] δ')) := by
  refine Does.intro Try.func32 rfl Try.ntmps32 rfl fun w0 => ?_
  refine code_seq ?_
  refine code_region ?_
  refine op_v (v_assign rfl) rfl ?_
  refine op_v (v_assign rfl) rfl ?_
  refine ops_nil ?_
  refine post_next ?_
  refine code_seq ?_
  refine code_seq ?_
  refine code_region ?_
  refine op_v (v_move rfl) rfl ?_
  refine op_v (v_move rfl) rfl ?_
  refine op_v (v_min rfl rfl) rfl ?_
  by_cases h9 : min a w < 0
  · first | refine op_v (v_cmptA rfl rfl rfl) rfl ?_ | refine op_v (v_cmpfA rfl rfl rfl) rfl ?_ | refine op_v (v_cmp rfl rfl rfl) rfl ?_
    refine op_v (v_move rfl) rfl ?_
    first
      | (refine op_want rfl rfl ?_
         refine op_v (v_move rfl) rfl ?_)
      | (refine op_skip rfl rfl (by simp [undef]) rfl ?_)
    first
      | (refine op_want rfl rfl ?_
         refine op_v (v_move rfl) rfl ?_)
      | (refine op_skip rfl rfl (by simp [undef]) rfl ?_)
    first
      | (refine op_want rfl rfl ?_
         refine op_v (v_max rfl rfl) rfl ?_)
      | (refine op_skip rfl rfl (by simp [undef]) rfl ?_)
    first
      | (refine op_want rfl rfl ?_
         first | refine op_v (v_cmptA rfl rfl rfl) rfl ?_ | refine op_v (v_cmpfA rfl rfl rfl) rfl ?_ | refine op_v (v_cmp rfl rfl rfl) rfl ?_)
      | (refine op_skip rfl rfl (by simp [undef]) rfl ?_)
    first | refine op_v (v_pickt rfl rfl) rfl ?_ | refine op_v (v_pickf rfl rfl) rfl ?_ | refine op_v (v_pickb rfl rfl rfl) rfl ?_
    refine op_v (v_move rfl) rfl ?_
    first
      | (refine op_want rfl rfl ?_
         refine op_v (v_move rfl) rfl ?_)
      | (refine op_skip rfl rfl (by simp [undef]) rfl ?_)
    first
      | (refine op_want rfl rfl ?_
         refine op_v (v_move rfl) rfl ?_)
      | (refine op_skip rfl rfl (by simp [undef]) rfl ?_)
    first
      | (refine op_want rfl rfl ?_
         refine op_v (v_addb (c := a + w) rfl rfl rfl ⟨by omega, by omega⟩) rfl ?_)
      | (refine op_skip rfl rfl (by simp [undef]) rfl ?_)
    first
      | (refine op_want rfl rfl ?_
         first | refine op_v (v_cmptA rfl rfl rfl) rfl ?_ | refine op_v (v_cmpfA rfl rfl rfl) rfl ?_ | refine op_v (v_cmp rfl rfl rfl) rfl ?_)
      | (refine op_skip rfl rfl (by simp [undef]) rfl ?_)
    first | refine op_v (v_pickt rfl rfl) rfl ?_ | refine op_v (v_pickf rfl rfl) rfl ?_ | refine op_v (v_pickb rfl rfl rfl) rfl ?_
    refine ops_nil ?_
    refine post_next ?_
    refine code_cond_t rfl ?_
    refine code_seq ?_
    refine code_region ?_
    refine op_v (v_assign rfl) rfl ?_
    refine op_v (v_assign rfl) rfl ?_
    refine ops_nil ?_
    refine post_next ?_
    refine code_ret ?_
    refine post_ret_then ?_
    refine post_ret (rs := [.tmp 4, .tmp 5]) rfl (List.Perm.refl _) (.cons (.tmp rfl) (.cons (.tmp rfl) .nil)) (List.Sublist.refl _) ?_
    exact .inl ⟨by omega, rfl, rfl⟩
  · first | refine op_v (v_cmptA rfl rfl rfl) rfl ?_ | refine op_v (v_cmpfA rfl rfl rfl) rfl ?_ | refine op_v (v_cmp rfl rfl rfl) rfl ?_
    refine op_v (v_move rfl) rfl ?_
    first
      | (refine op_want rfl rfl ?_
         refine op_v (v_move rfl) rfl ?_)
      | (refine op_skip rfl rfl (by simp [undef]) rfl ?_)
    first
      | (refine op_want rfl rfl ?_
         refine op_v (v_move rfl) rfl ?_)
      | (refine op_skip rfl rfl (by simp [undef]) rfl ?_)
    first
      | (refine op_want rfl rfl ?_
         refine op_v (v_max rfl rfl) rfl ?_)
      | (refine op_skip rfl rfl (by simp [undef]) rfl ?_)
    by_cases h14 : 16 < max a w
    · first
        | (refine op_want rfl rfl ?_
           first | refine op_v (v_cmptA rfl rfl rfl) rfl ?_ | refine op_v (v_cmpfA rfl rfl rfl) rfl ?_ | refine op_v (v_cmp rfl rfl rfl) rfl ?_)
        | (refine op_skip rfl rfl (by simp [undef]) rfl ?_)
      first | refine op_v (v_pickt rfl rfl) rfl ?_ | refine op_v (v_pickf rfl rfl) rfl ?_ | refine op_v (v_pickb rfl rfl rfl) rfl ?_
      refine op_v (v_move rfl) rfl ?_
      first
        | (refine op_want rfl rfl ?_
           refine op_v (v_move rfl) rfl ?_)
        | (refine op_skip rfl rfl (by simp [undef]) rfl ?_)
      first
        | (refine op_want rfl rfl ?_
           refine op_v (v_move rfl) rfl ?_)
        | (refine op_skip rfl rfl (by simp [undef]) rfl ?_)
      first
        | (refine op_want rfl rfl ?_
           refine op_v (v_addb (c := a + w) rfl rfl rfl ⟨by omega, by omega⟩) rfl ?_)
        | (refine op_skip rfl rfl (by simp [undef]) rfl ?_)
      first
        | (refine op_want rfl rfl ?_
           first | refine op_v (v_cmptA rfl rfl rfl) rfl ?_ | refine op_v (v_cmpfA rfl rfl rfl) rfl ?_ | refine op_v (v_cmp rfl rfl rfl) rfl ?_)
        | (refine op_skip rfl rfl (by simp [undef]) rfl ?_)
      first | refine op_v (v_pickt rfl rfl) rfl ?_ | refine op_v (v_pickf rfl rfl) rfl ?_ | refine op_v (v_pickb rfl rfl rfl) rfl ?_
      refine ops_nil ?_
      refine post_next ?_
      refine code_cond_t rfl ?_
      refine code_seq ?_
      refine code_region ?_
      refine op_v (v_assign rfl) rfl ?_
      refine op_v (v_assign rfl) rfl ?_
      refine ops_nil ?_
      refine post_next ?_
      refine code_ret ?_
      refine post_ret_then ?_
      refine post_ret (rs := [.tmp 4, .tmp 5]) rfl (List.Perm.refl _) (.cons (.tmp rfl) (.cons (.tmp rfl) .nil)) (List.Sublist.refl _) ?_
      exact .inl ⟨by omega, rfl, rfl⟩
    · first
        | (refine op_want rfl rfl ?_
           first | refine op_v (v_cmptA rfl rfl rfl) rfl ?_ | refine op_v (v_cmpfA rfl rfl rfl) rfl ?_ | refine op_v (v_cmp rfl rfl rfl) rfl ?_)
        | (refine op_skip rfl rfl (by simp [undef]) rfl ?_)
      first | refine op_v (v_pickt rfl rfl) rfl ?_ | refine op_v (v_pickf rfl rfl) rfl ?_ | refine op_v (v_pickb rfl rfl rfl) rfl ?_
      refine op_v (v_move rfl) rfl ?_
      first
        | (refine op_want rfl rfl ?_
           refine op_v (v_move rfl) rfl ?_)
        | (refine op_skip rfl rfl (by simp [undef]) rfl ?_)
      first
        | (refine op_want rfl rfl ?_
           refine op_v (v_move rfl) rfl ?_)
        | (refine op_skip rfl rfl (by simp [undef]) rfl ?_)
      first
        | (refine op_want rfl rfl ?_
           refine op_v (v_addb (c := a + w) rfl rfl rfl ⟨by omega, by omega⟩) rfl ?_)
        | (refine op_skip rfl rfl (by simp [undef]) rfl ?_)
      by_cases h20 : a + w = 0
      · first
          | (refine op_want rfl rfl ?_
             first | refine op_v (v_cmptA rfl rfl rfl) rfl ?_ | refine op_v (v_cmpfA rfl rfl rfl) rfl ?_ | refine op_v (v_cmp rfl rfl rfl) rfl ?_)
          | (refine op_skip rfl rfl (by simp [undef]) rfl ?_)
        first | refine op_v (v_pickt rfl rfl) rfl ?_ | refine op_v (v_pickf rfl rfl) rfl ?_ | refine op_v (v_pickb rfl rfl rfl) rfl ?_
        refine ops_nil ?_
        refine post_next ?_
        refine code_cond_t rfl ?_
        refine code_seq ?_
        refine code_region ?_
        refine op_v (v_assign rfl) rfl ?_
        refine op_v (v_assign rfl) rfl ?_
        refine ops_nil ?_
        refine post_next ?_
        refine code_ret ?_
        refine post_ret_then ?_
        refine post_ret (rs := [.tmp 4, .tmp 5]) rfl (List.Perm.refl _) (.cons (.tmp rfl) (.cons (.tmp rfl) .nil)) (List.Sublist.refl _) ?_
        exact .inl ⟨by omega, rfl, rfl⟩
      · obtain ⟨an, rfl⟩ : ∃ n : Nat, a = n := ⟨a.toNat, by omega⟩
        obtain ⟨wn, rfl⟩ : ∃ n : Nat, w = n := ⟨w.toNat, by omega⟩
        first
          | (refine op_want rfl rfl ?_
             first | refine op_v (v_cmptA rfl rfl rfl) rfl ?_ | refine op_v (v_cmpfA rfl rfl rfl) rfl ?_ | refine op_v (v_cmp rfl rfl rfl) rfl ?_)
          | (refine op_skip rfl rfl (by simp [undef]) rfl ?_)
        first | refine op_v (v_pickt rfl rfl) rfl ?_ | refine op_v (v_pickf rfl rfl) rfl ?_ | refine op_v (v_pickb rfl rfl rfl) rfl ?_
        refine ops_nil ?_
        refine post_next ?_
        refine code_cond_f rfl ?_
        refine code_skip ?_
        refine post_next ?_
        refine code_seq ?_
        refine code_region ?_
        refine op_call pl23 rfl rfl ((HNew_does _)) Parts.none ?_
        rintro v22 I22 _ hI22 ⟨h1, m1, rfl, rfl⟩
        refine op_v (v_move rfl) rfl ?_
        refine op_v (v_build bl102 rfl rfl) rfl ?_
        refine op_call pl23 rfl rfl ((HNew_does _)) Parts.none ?_
        rintro v25 I25 _ hI25 ⟨h2, m2, rfl, rfl⟩
        refine op_v (v_move rfl) rfl ?_
        refine op_v (v_build bl102 rfl rfl) rfl ?_
        refine op_v (v_build bl104 rfl rfl) rfl ?_
        refine o_box rfl rfl rfl (fun b29 => ?_)
        refine OpsJ.view (View.perm (List.Perm.cons _ (List.perm_append_comm (l₁ := [_, _, _]) (l₂ := [_, _, _])))) ?_
        refine op_v (v_assign rfl) rfl ?_
        refine op_v (v_assign rfl) rfl ?_
        refine ops_nil ?_
        refine post_next ?_
        refine code_ret ?_
        refine post_ret (rs := [.tmp 4, .tmp 5]) rfl (List.Perm.refl _) (.cons (.tmp rfl) (.cons (.tmp rfl) .nil)) (List.Sublist.refl _) ?_
        exact .inr ⟨by omega, ⟨b29, h1, m1, h2, m2⟩, rfl, none, 0, [], [], none, 0, [], ⟨List.Perm.refl _, (fun x h => nomatch h), (by simp), ⟨(fun j h => absurd h (by simp)), fun _ _ => rfl⟩, (fun j _ h => absurd h (by simp)), ⟨(fun j h => absurd h (by simp)), fun _ _ => rfl⟩, (fun j _ h => absurd h (by simp))⟩, rfl⟩
theorem QOK.ids {xs ys : List It} {mp mq : Mp} (h : QOK xs ys mp mq) (id : Int) : id ∈ xs.map (·.2) ↔ id ∈ ys.map (·.2) := h.same.mem_iff
theorem QPut_does {I : Imm} {q : Qa} {a w told : Nat} {ys : List It} {δ : List Ent} {id k : Int} (hq : QE q a w told ys δ) :
    Does Try.prog 34 [.pointer (some ⟨q.qb, 0, none⟩), .int .i64 id, .int .i64 k] I δ (fun v _ δ' => ∃ e zs, v = .int .i64 e ∧ PutH ys (k, id) e zs ∧ QE q a w told zs δ') := by
  obtain ⟨Aa, ca, xs, mp, Aw, cw, mq, hok, rfl⟩ := hq
  have hlen := hok.len
  have hlx := hok.lx
  refine Does.intro Try.func34 rfl Try.ntmps34 rfl fun w0 => ?_
  refine code_seq ?_
  refine code_region ?_
  refine op_v (v_assign rfl) rfl ?_
  refine ops_nil ?_
  refine post_next ?_
  refine code_seq ?_
  refine code_seq ?_
  refine code_region ?_
  refine op_v (v_move rfl) rfl ?_
  refine op_v (v_ptrq (z := false) Try.underlying62 rfl rfl rfl) rfl ?_
  refine ops_nil ?_
  refine post_next ?_
  refine code_cond_f rfl ?_
  refine code_skip ?_
  refine post_next ?_
  refine code_seq ?_
  refine code_seq ?_
  refine code_region ?_
  refine op_v (v_move rfl) rfl ?_
  refine op_v (v_nilCheck rfl) rfl ?_
  first | refine op_v (v_fieldB 0 Try.underlying104 rfl rfl fz102 rfl) rfl ?_ | refine op_v (v_fieldI 0 Try.underlying104 rfl rfl fz102 rfl (by assumption)) rfl ?_ | refine op_v (v_field Try.underlying104 rfl fz102 rfl rfl) rfl ?_
  first | refine op_v (v_fieldB 0 Try.underlying102 rfl rfl fz48 rfl) rfl ?_ | refine op_v (v_fieldI 0 Try.underlying102 rfl rfl fz48 rfl (by assumption)) rfl ?_ | refine op_v (v_field Try.underlying102 rfl fz48 rfl rfl) rfl ?_
  refine op_v (v_loadA ty48 rfl rfl) rfl ?_
  refine op_v (v_move rfl) rfl ?_
  refine op_v (v_move rfl) rfl ?_
  refine op_v (v_build bl57 rfl rfl) rfl ?_
  refine op_call pl24 rfl rfl ((HPut_does (x := (id, id)) hok.lx hok.ox hok.hx)) (List.perm_middle (l₁ := [_, _, _]) (l₂ := [_, _, _])).symm ?_
  rintro v18 I18 _ hI18 ⟨e1, A1, c1, xs1, mp1, rfl, hr1, hl1, ho1, hh1, rfl⟩
  refine OpsJ.view (View.perm (List.perm_middle (l₁ := [_, _, _]) (l₂ := [_, _, _]))) ?_
  refine op_v (v_assign rfl) rfl ?_
  refine ops_nil ?_
  refine post_next ?_
  refine code_seq ?_
  refine code_region ?_
  refine op_v (v_move rfl) rfl ?_
  by_cases h20 : e1 ≠ 0
  · first | refine op_v (v_cmptA rfl rfl rfl) rfl ?_ | refine op_v (v_cmpfA rfl rfl rfl) rfl ?_ | refine op_v (v_cmp rfl rfl rfl) rfl ?_
    refine ops_nil ?_
    refine post_next ?_
    refine code_cond_t rfl ?_
    refine code_seq ?_
    refine code_region ?_
    refine op_v (v_move rfl) rfl ?_
    refine op_v (v_assign rfl) rfl ?_
    refine ops_nil ?_
    refine post_next ?_
    refine code_ret ?_
    refine post_ret_then ?_
    refine post_ret (rs := [.tmp 6]) rfl (List.Perm.refl _) (.cons (.tmp rfl) .nil) (List.Sublist.refl _) ?_
    rcases hr1 with ⟨h1, h2, h3⟩ | ⟨h1, h1', h2, h3⟩ | ⟨_, _, h2, _⟩
    · subst h3; exact ⟨e1, ys, rfl, .inl ⟨(hok.ids id).1 h1, h2, rfl⟩, A1, c1, xs1, mp1, Aw, cw, mq, ⟨hok.same, hok.eq, hl1, ho1, hh1, hok.oy, hok.hy⟩, rfl⟩
    · subst h3; exact ⟨e1, ys, rfl, .inr (.inl ⟨fun hm => h1 ((hok.ids id).2 hm), by omega, h2, rfl⟩), A1, c1, xs1, mp1, Aw, cw, mq, ⟨hok.same, hok.eq, hl1, ho1, hh1, hok.oy, hok.hy⟩, rfl⟩
    · exact absurd h2 h20
  · obtain ⟨hn, hlt, he0, hp1⟩ : id ∉ xs.map (·.2) ∧ xs.length < 4096 ∧ e1 = 0 ∧ xs1.Perm (xs ++ [(id, id)]) := by
      rcases hr1 with ⟨h1, h2, h3⟩ | ⟨h1, h1', h2, h3⟩ | h
      · omega
      · omega
      · exact h
    first | refine op_v (v_cmptA rfl rfl rfl) rfl ?_ | refine op_v (v_cmpfA rfl rfl rfl) rfl ?_ | refine op_v (v_cmp rfl rfl rfl) rfl ?_
    refine ops_nil ?_
    refine post_next ?_
    refine code_cond_f rfl ?_
    refine code_skip ?_
    refine post_next ?_
    refine code_seq ?_
    refine code_region ?_
    refine op_v (v_move rfl) rfl ?_
    refine op_v (v_nilCheck rfl) rfl ?_
    first | refine op_v (v_fieldB 2 Try.underlying104 rfl rfl fz102 rfl) rfl ?_ | refine op_v (v_fieldI 2 Try.underlying104 rfl rfl fz102 rfl (by assumption)) rfl ?_ | refine op_v (v_field Try.underlying104 rfl fz102 rfl rfl) rfl ?_
    first | refine op_v (v_fieldB 0 Try.underlying102 rfl rfl fz48 rfl) rfl ?_ | refine op_v (v_fieldI 0 Try.underlying102 rfl rfl fz48 rfl (by assumption)) rfl ?_ | refine op_v (v_field Try.underlying102 rfl fz48 rfl rfl) rfl ?_
    refine op_v (v_loadA ty48 rfl rfl) rfl ?_
    refine op_v (v_move rfl) rfl ?_
    refine op_v (v_move rfl) rfl ?_
    refine op_v (v_build bl57 rfl rfl) rfl ?_
    refine op_call pl24 rfl rfl ((HPut_does (x := (k, id)) (by omega) hok.oy hok.hy)) ((List.Perm.cons _ (List.perm_append_comm (l₁ := [_, _, _]) (l₂ := [_, _, _]))).trans (List.perm_middle (l₁ := [_, _, _]) (l₂ := [_, _, _])).symm) ?_
    rintro v30 I30 _ hI30 ⟨e2, A2, c2, ys2, mq2, rfl, hr2, hl2, ho2, hh2, rfl⟩
    refine OpsJ.view (View.perm ((List.perm_middle (l₁ := [_, _, _]) (l₂ := [_, _, _])).trans (List.Perm.cons _ (List.perm_append_comm (l₁ := [_, _, _]) (l₂ := [_, _, _]))))) ?_
    refine op_v (v_assign rfl) rfl ?_
    refine ops_nil ?_
    refine post_next ?_
    refine code_ret ?_
    refine post_ret (rs := [.tmp 6]) rfl (List.Perm.refl _) (.cons (.tmp rfl) .nil) (List.Sublist.refl _) ?_
    refine ⟨e2, ys2, rfl, hr2, A1, c1, xs1, mp1, A2, c2, mq2, ⟨?_, ?_, hl1, ho1, hh1, ho2, hh2⟩, rfl⟩
    · rcases hr2 with ⟨h1, _, _⟩ | ⟨_, h1, _, _⟩ | ⟨_, _, _, hp2⟩
      · exact absurd ((hok.ids id).2 h1) hn
      · omega
      · have e1' := hp1.map (fun x : It => x.2)
        have e2' := hp2.map (fun x : It => x.2)
        rw [List.map_append] at e1' e2'
        exact e1'.trans ((hok.same.append_right _).trans e2'.symm)
    · intro x hx
      rcases List.mem_append.1 (hp1.mem_iff.1 hx) with h | h
      · exact hok.eq x h
      · simp at h; rw [h]
theorem QSize_does {I : Imm} {q : Qa} {a w told : Nat} {ys : List It} {δ : List Ent} (hq : QE q a w told ys δ) :
    Does Try.prog 38 [.pointer (some ⟨q.qb, 0, none⟩)] I δ (fun v _ δ' => v = .int .i64 ys.length ∧ QE q a w told ys δ') := by
  obtain ⟨Aa, ca, xs, mp, Aw, cw, mq, hok, rfl⟩ := hq
  have hlen := hok.len
  refine Does.intro Try.func38 rfl Try.ntmps38 rfl fun w0 => ?_
  refine code_seq ?_
  refine code_region ?_
  refine op_v (v_assign rfl) rfl ?_
  refine ops_nil ?_
  refine post_next ?_
  refine code_seq ?_
  refine code_seq ?_
  refine code_region ?_
  refine op_v (v_move rfl) rfl ?_
  refine op_v (v_ptrq (z := false) Try.underlying62 rfl rfl rfl) rfl ?_
  refine ops_nil ?_
  refine post_next ?_
  refine code_cond_f rfl ?_
  refine code_skip ?_
  refine post_next ?_
  refine code_seq ?_
  refine code_region ?_
  refine op_v (v_move rfl) rfl ?_
  refine op_v (v_nilCheck rfl) rfl ?_
  first | refine op_v (v_fieldB 0 Try.underlying104 rfl rfl fz102 rfl) rfl ?_ | refine op_v (v_fieldI 0 Try.underlying104 rfl rfl fz102 rfl (by assumption)) rfl ?_ | refine op_v (v_field Try.underlying104 rfl fz102 rfl rfl) rfl ?_
  first | refine op_v (v_fieldB 0 Try.underlying102 rfl rfl fz48 rfl) rfl ?_ | refine op_v (v_fieldI 0 Try.underlying102 rfl rfl fz48 rfl (by assumption)) rfl ?_ | refine op_v (v_field Try.underlying102 rfl fz48 rfl rfl) rfl ?_
  refine op_v (v_loadA ty48 rfl rfl) rfl ?_
  refine op_call pl30 rfl rfl ((HSize_does)) (List.perm_middle (l₁ := [_, _, _]) (l₂ := [_, _, _])).symm ?_
  rintro v10 I10 _ hI10 ⟨rfl, rfl⟩
  refine OpsJ.view (View.perm (List.perm_middle (l₁ := [_, _, _]) (l₂ := [_, _, _]))) ?_
  refine op_v (v_assign rfl) rfl ?_
  refine ops_nil ?_
  refine post_next ?_
  refine code_ret ?_
  refine post_ret (rs := [.tmp 2]) rfl (List.Perm.refl _) (.cons (.tmp rfl) .nil) (List.Sublist.refl _) ?_
  exact ⟨by rw [← hlen]; rfl, Aa, ca, xs, mp, Aw, cw, mq, hok, rfl⟩
theorem QDrop_does {I : Imm} {q : Qa} {a w told : Nat} {ys : List It} {δ : List Ent} {id : Int} (hq : QE q a w told ys δ) :
    Does Try.prog 37 [.pointer (some ⟨q.qb, 0, none⟩), .int .i64 id] I δ (fun v _ δ' => ∃ b zs, v = .bool b ∧ DropH ys id b zs ∧ QE q a w told zs δ') := by
  obtain ⟨Aa, ca, xs, mp, Aw, cw, mq, hok, rfl⟩ := hq
  have hlen := hok.len
  have hlx := hok.lx
  refine Does.intro Try.func37 rfl Try.ntmps37 rfl fun w0 => ?_
  refine code_seq ?_
  refine code_region ?_
  refine op_v (v_assign rfl) rfl ?_
  refine ops_nil ?_
  refine post_next ?_
  refine code_seq ?_
  refine code_seq ?_
  refine code_region ?_
  refine op_v (v_move rfl) rfl ?_
  refine op_v (v_ptrq (z := false) Try.underlying62 rfl rfl rfl) rfl ?_
  refine ops_nil ?_
  refine post_next ?_
  refine code_cond_f rfl ?_
  refine code_skip ?_
  refine post_next ?_
  refine code_seq ?_
  refine code_region ?_
  refine op_v (v_move rfl) rfl ?_
  refine op_v (v_nilCheck rfl) rfl ?_
  first | refine op_v (v_fieldB 2 Try.underlying104 rfl rfl fz102 rfl) rfl ?_ | refine op_v (v_fieldI 2 Try.underlying104 rfl rfl fz102 rfl (by assumption)) rfl ?_ | refine op_v (v_field Try.underlying104 rfl fz102 rfl rfl) rfl ?_
  first | refine op_v (v_fieldB 0 Try.underlying102 rfl rfl fz48 rfl) rfl ?_ | refine op_v (v_fieldI 0 Try.underlying102 rfl rfl fz48 rfl (by assumption)) rfl ?_ | refine op_v (v_field Try.underlying102 rfl fz48 rfl rfl) rfl ?_
  refine op_v (v_loadA ty48 rfl rfl) rfl ?_
  refine op_v (v_move rfl) rfl ?_
  refine op_call pl26 rfl rfl ((HDrop_does (id := id) (by omega) hok.oy hok.hy)) ((List.Perm.cons _ (List.perm_append_comm (l₁ := [_, _, _]) (l₂ := [_, _, _]))).trans (List.perm_middle (l₁ := [_, _, _]) (l₂ := [_, _, _])).symm) ?_
  rintro v13 I13 _ hI13 ⟨b2, ys2, mq2, rfl, hr2, hl2, ho2, hh2, rfl⟩
  refine OpsJ.view (View.perm ((List.perm_middle (l₁ := [_, _, _]) (l₂ := [_, _, _])).trans (List.Perm.cons _ (List.perm_append_comm (l₁ := [_, _, _]) (l₂ := [_, _, _]))))) ?_
  refine ops_nil ?_
  refine post_next ?_
  refine code_seq ?_
  refine code_region ?_
  refine op_v (v_move rfl) rfl ?_
  refine op_v (v_nilCheck rfl) rfl ?_
  first | refine op_v (v_fieldB 0 Try.underlying104 rfl rfl fz102 rfl) rfl ?_ | refine op_v (v_fieldI 0 Try.underlying104 rfl rfl fz102 rfl (by assumption)) rfl ?_ | refine op_v (v_field Try.underlying104 rfl fz102 rfl rfl) rfl ?_
  first | refine op_v (v_fieldB 0 Try.underlying102 rfl rfl fz48 rfl) rfl ?_ | refine op_v (v_fieldI 0 Try.underlying102 rfl rfl fz48 rfl (by assumption)) rfl ?_ | refine op_v (v_field Try.underlying102 rfl fz48 rfl rfl) rfl ?_
  refine op_v (v_loadA ty48 rfl rfl) rfl ?_
  refine op_v (v_move rfl) rfl ?_
  refine op_call pl26 rfl rfl ((HDrop_does (id := id) hok.lx hok.ox hok.hx)) (List.perm_middle (l₁ := [_, _, _]) (l₂ := [_, _, _])).symm ?_
  rintro v20 I20 _ hI20 ⟨b1, xs1, mp1, rfl, hr1, hl1, ho1, hh1, rfl⟩
  refine OpsJ.view (View.perm (List.perm_middle (l₁ := [_, _, _]) (l₂ := [_, _, _]))) ?_
  refine op_v (v_assign rfl) rfl ?_
  refine ops_nil ?_
  refine post_next ?_
  refine code_ret ?_
  refine post_ret (rs := [.tmp 4]) rfl (List.Perm.refl _) (.cons (.tmp rfl) .nil) (List.Sublist.refl _) ?_
  rcases hr1 with ⟨h1, rfl, rfl⟩ | ⟨x, hx, rfl, hp1⟩ <;> rcases hr2 with ⟨k1, rfl, rfl⟩ | ⟨y, hy, rfl, hp2⟩
  · exact ⟨false, ys2, rfl, .inl ⟨k1, rfl, rfl⟩, Aa, ca, xs1, mp1, Aw, cw, mq2, ⟨hok.same, hok.eq, hl1, ho1, hh1, ho2, hh2⟩, rfl⟩
  · exact absurd ((hok.ids id).2 (by rw [← hy]; exact List.mem_map_of_mem (f := fun x : It => x.2) (hp2.mem_iff.2 (List.mem_cons_self ..)))) h1
  · exact absurd ((hok.ids id).1 (by rw [← hx]; exact List.mem_map_of_mem (f := fun x : It => x.2) (hp1.mem_iff.2 (List.mem_cons_self ..)))) k1
  · refine ⟨true, ys2, rfl, .inr ⟨y, hy, rfl, hp2⟩, Aa, ca, xs1, mp1, Aw, cw, mq2, ⟨?_, fun z hz => hok.eq z (hp1.mem_iff.2 (List.mem_cons_of_mem _ hz)), hl1, ho1, hh1, ho2, hh2⟩, rfl⟩
    have e1 := hp1.map (fun x : It => x.2)
    have e2 := hp2.map (fun x : It => x.2)
    rw [List.map_cons, hx] at e1
    rw [List.map_cons, hy] at e2
    exact (e1.symm.trans (hok.same.trans e2)).cons_inv
end Go.Proofs.Ythbcdffldcdfoaa
