/- Walks: rows of numbers of one's own. -/
import Derived.Test.YthbcdffldcdfoaaWf
set_option linter.unusedVariables false
set_option linter.unusedSimpArgs false
/- short -/
namespace Go.Proofs.Ythbcdffldcdfoaa
open Go Lg

theorem Lg.Parts.three {δ δ1 δ2 δ3 : List Ent} {x y z : Ent} (h : Del δ x δ1) (k : Del δ1 y δ2) (l : Del δ2 z δ3) : Parts δ [x, y, z] δ3 := h.perm.trans (List.Perm.cons _ (Parts.two k l))

theorem CloneI_does {I : Imm} {v : Value} {xs : List Int} (h : RInts I v xs) :
    Does Try.prog 44 [v] I [] (fun v I' δ' => ∃ ad' c', v = .slice ad' xs.length c' ∧ δ' = [.row (.slice ad' xs.length c') 3 1 xs.length (xs.map (Value.int .i64))]) := by
  obtain ⟨ad, c, xs, hc, hb, hat, hr⟩ := h
  refine Does.intro Try.func44 rfl Try.ntmps44 rfl fun w0 => ?_
  refine code_seq ?_
  refine code_region ?_
  refine op_v (v_assign rfl) rfl ?_
  refine ops_nil ?_
  refine post_next ?_
  refine code_seq ?_
  refine code_seq ?_
  refine code_region ?_
  refine op_v (v_move rfl) rfl ?_
  refine op_v (v_nilq Try.underlying28 rfl rfl rfl) rfl ?_
  refine ops_nil ?_
  refine post_next ?_
  refine code_cond rfl (fun hc0 => ?_) (fun hc0 => ?_)
  · have had : ad = none := by simpa using hc0
    subst had
    have hn0 : xs = [] := by
      rcases xs with _ | ⟨x, r⟩
      · rfl
      · exact absurd (hat 0 (.int .i64 x) rfl) (by simp [Imm.cellO])
    subst hn0
    refine code_seq ?_
    refine code_region ?_
    refine op_v (v_assign rfl) rfl ?_
    refine ops_nil ?_
    refine post_next ?_
    refine code_ret ?_
    refine post_ret_then ?_
    refine PostJ.view (View.nilRow 3 1) (post_ret (rs := [.tmp 2]) rfl (List.Perm.refl _) (.cons (.tmp rfl) .nil) (List.Sublist.refl _) ⟨none, 0, rfl, rfl⟩)
  · refine code_skip ?_
    refine post_next ?_
    refine code_seq ?_
    refine code_region ?_
    refine o_buildSlice (xs := []) Try.underlying28 bs3 rfl rfl rfl rfl rfl (fun b5 => ?_)
    refine op_v (v_move rfl) rfl ?_
    refine o_append Try.underlying28 bs3 rfl rfl rfl (fun v' => by repeat (first | exact Swap.here | apply Swap.there)) (Src.ofI hat) (by simp) (by intro u hu; obtain ⟨x, _, rfl⟩ := List.mem_map.1 hu; rfl) (by omega) (by omega) (fun a7 c7 => ?_)
    refine op_v (v_assign rfl) rfl ?_
    refine ops_nil ?_
    refine post_next ?_
    refine code_ret ?_
    refine post_ret (rs := [.tmp 2]) rfl (List.Perm.refl _) (.cons (.tmp rfl) .nil) (List.Sublist.refl _) ?_
    refine ⟨a7, c7, ?_, ?_⟩
    · simp [outV]
    · simp [cat]

theorem RInts.of {I : Imm} {ad : Option Addr} {n c : Nat} {xs : List Int} (hn : n = xs.length) (hc : n ≤ c) (hb : n ≤ 17592186044416) (hat : Cells I ad (xs.map (Value.int .i64))) (hr : ∀ x ∈ xs, InR x) : RInts I (.slice ad n c) xs := by
  subst hn
  exact ⟨ad, c, xs, hc, hb, hat, hr⟩
theorem RInts.len {I : Imm} {v : Value} {xs : List Int} (h : RInts I v xs) : xs.length ≤ 17592186044416 ∧ ∀ x ∈ xs, InR x := by
  obtain ⟨ad, c, xs, hc, hb, hat, hr⟩ := h
  exact ⟨hb, hr⟩

theorem RInts.shape {I : Imm} {v : Value} {xs : List Int} (h : RInts I v xs) : ∃ ad c, v = .slice ad xs.length c := by
  obtain ⟨ad, c, xs, _, _, _, _⟩ := h
  exact ⟨ad, c, rfl⟩

/-- rows of rows of numbers -/
def RowP (I : Imm) (xs : List Value) (ps : List (List Int)) : Prop := xs.length = ps.length ∧ ∀ i (h : i < ps.length), ∃ v, xs[i]? = some v ∧ RInts I v ps[i]
theorem RowP.nil (I : Imm) : RowP I [] [] := ⟨rfl, fun i h => by simp at h⟩
theorem RowP.mono {I J : Imm} {xs : List Value} {ps : List (List Int)} (h : RowP I xs ps) (hl : I.le J) : RowP J xs ps :=
  ⟨h.1, fun i hi => let ⟨v, h1, h2⟩ := h.2 i hi; ⟨v, h1, h2.mono hl⟩⟩
theorem RowP.snoc {I : Imm} {xs : List Value} {ps : List (List Int)} {v : Value} {p : List Int} (h : RowP I xs ps) (k : RInts I v p) : RowP I (xs ++ [v]) (ps ++ [p]) := by
  refine ⟨by simp [h.1], fun i hi => ?_⟩
  by_cases hlt : i < ps.length
  · obtain ⟨u, h1, h2⟩ := h.2 i hlt
    rw [List.getElem_append_left hlt]
    exact ⟨u, by rw [List.getElem?_append_left (by rw [h.1]; exact hlt)]; exact h1, h2⟩
  · have hi' : i = ps.length := by simp at hi; omega
    subst hi'
    have e : (ps ++ [p])[ps.length] = p := by simp
    rw [e]
    exact ⟨v, by rw [← h.1]; simp, k⟩
theorem RowP.one {I : Imm} {xs : List Value} {ps : List (List Int)} (h : RowP I xs ps) : ∀ u ∈ xs, u.oneCell' = true := by
  intro u hu
  obtain ⟨i, hi, rfl⟩ := List.getElem_of_mem hu
  obtain ⟨v, h1, h2⟩ := h.2 i (by rw [← h.1]; exact hi)
  rw [List.getElem?_eq_getElem hi] at h1
  have e : xs[i] = v := by simpa using h1
  show xs[i].oneCell' = true
  rw [e]
  generalize ps[i]'(by rw [← h.1]; exact hi) = p at h2
  obtain ⟨ad, c, xs, _, _, _, _⟩ := h2
  rfl
inductive RPs (I : Imm) : Value → List (List Int) → Prop
  | mk (ad : Option Addr) (c : Nat) (xs : List Value) (ps : List (List Int)) (hc : ps.length ≤ c) (hb : ps.length ≤ 4398046511104) (hat : Cells I ad xs) (hr : RowP I xs ps) : RPs I (.slice ad ps.length c) ps
theorem RPs.of {I : Imm} {ad : Option Addr} {n c : Nat} {xs : List Value} {ps : List (List Int)} (hn : n = ps.length) (hc : n ≤ c) (hb : n ≤ 4398046511104) (hat : Cells I ad xs) (hr : RowP I xs ps) : RPs I (.slice ad n c) ps := by
  subst hn
  exact ⟨ad, c, xs, ps, hc, hb, hat, hr⟩
theorem RPs.mono {I J : Imm} {v : Value} {ps : List (List Int)} (h : RPs I v ps) (hl : I.le J) : RPs J v ps := by
  obtain ⟨ad, c, xs, ps, hc, hb, hat, hr⟩ := h
  exact ⟨ad, c, xs, ps, hc, hb, hat.mono hl, hr.mono hl⟩
theorem RPs.get {I : Imm} {ad : Option Addr} {xs : List Value} {ps : List (List Int)} (hat : Cells I ad xs) (hr : RowP I xs ps) (i : Nat) (h : i < ps.length) :
    ∃ (ed : Option Addr) (ec : Nat), At I ad (i * 1) [.slice ed ps[i].length ec] ∧ RInts I (.slice ed ps[i].length ec) ps[i] := by
  obtain ⟨v, h1, h2⟩ := hr.2 i h
  generalize he : ps[i] = p at h2
  obtain ⟨ad', c, p, _, _, _, _⟩ := h2
  refine ⟨ad', c, hat.at _ fun j u hj => ?_, ⟨ad', c, p, ‹_›, ‹_›, ‹_›, ‹_›⟩⟩
  rcases j with _ | j
  · simp at hj; subst hj; simpa using h1
  · simp at hj
end Go.Proofs.Ythbcdffldcdfoaa
