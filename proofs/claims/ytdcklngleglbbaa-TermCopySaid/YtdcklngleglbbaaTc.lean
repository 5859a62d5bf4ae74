/- Plain facts on a term that is copied part by part: boxes of one's own, some of whose cells still point to what is only read. No condition. -/
import Derived.Test.YtdcklngleglbbaaLa
import Derived.Test.YtdcklngleglbbaaWk
set_option linter.unusedVariables false
set_option linter.unusedSimpArgs false
namespace Go.Proofs.Ytdcklngleglbbaa
open Go Lg

abbrev Bk := Nat × Nat × List Value
def bx (b : Bk) : Ent := .box b.1 24 b.2.2
def CellAt (cs : List Value) (i : Nat) (h : Int) (A : Option Addr) (m c : Nat) : Prop := cs[i * 2]? = some (.int .i64 h) ∧ cs[i * 2 + 1]? = some (.slice A m c) ∧ InR h
structure Nest (I : Imm) (Bs : List Bk) (st : List (Nat × Nat × List T)) : Prop where
  nd : (Bs.map (·.1)).Nodup
  sd : (st.map fun p => (p.1, p.2.1)).Nodup
  pend : ∀ p ∈ st, ∃ b ∈ Bs, b.1 = p.1 ∧ p.2.1 < b.2.1 ∧ ∃ h A m c, CellAt b.2.2 p.2.1 h A m c ∧ RepS I (.slice A m c) p.2.2
  all : ∀ b ∈ Bs, b.2.1 * 2 ≤ b.2.2.length ∧ ∀ i, i < b.2.1 → (∃ ts, (b.1, i, ts) ∈ st) ∨ ∃ h A m c, CellAt b.2.2 i h A m c ∧ (m = 0 ∨ ∃ g' cs', A = some ⟨g', 0, none⟩ ∧ (g', m, cs') ∈ Bs)
theorem Nest.mono {I J : Imm} {Bs : List Bk} {st : List (Nat × Nat × List T)} (h : Nest I Bs st) (hl : I.le J) : Nest J Bs st :=
  ⟨h.nd, h.sd, fun p hp => let ⟨b, hb, h1, h2, q, A, m, c, h3, h4⟩ := h.pend p hp; ⟨b, hb, h1, h2, q, A, m, c, h3, h4.mono hl⟩, h.all⟩
/-- one cell is written -/
def updB (g i : Nat) (v : Value) (b : Bk) : Bk := if b.1 = g then (b.1, b.2.1, b.2.2.set (i * 2 + 1) v) else b
theorem updB_fst (g i : Nat) (v : Value) (b : Bk) : (updB g i v b).1 = b.1 := by unfold updB; split <;> rfl
theorem updB_n (g i : Nat) (v : Value) (b : Bk) : (updB g i v b).2.1 = b.2.1 := by unfold updB; split <;> rfl
theorem updB_len (g i : Nat) (v : Value) (b : Bk) : (updB g i v b).2.2.length = b.2.2.length := by unfold updB; split <;> simp
theorem updB_map (g i : Nat) (v : Value) (Bs : List Bk) : (Bs.map (updB g i v)).map (·.1) = Bs.map (·.1) := by
  rw [List.map_map]; apply List.map_congr_left; intro b _; exact updB_fst g i v b
theorem updB_cell {g i j : Nat} {v : Value} {b : Bk} {h : Int} {A : Option Addr} {m c : Nat} (hc : CellAt b.2.2 j h A m c) (hne : b.1 = g → j ≠ i) : CellAt (updB g i v b).2.2 j h A m c := by
  unfold updB
  split
  · rename_i e
    have := hne e
    exact ⟨by rw [List.getElem?_set_ne (by omega)]; exact hc.1, by rw [List.getElem?_set_ne (by omega)]; exact hc.2.1, hc.2.2⟩
  · exact hc
theorem nodup_last {α : Type} {l : List α} {x : α} (h : (l ++ [x]).Nodup) : l.Nodup ∧ x ∉ l := by
  rw [List.nodup_append] at h
  exact ⟨h.1, fun hm => h.2.2 x hm x (by simp) rfl⟩

theorem bk_uniq : ∀ {Bs : List Bk} {a b : Bk}, (Bs.map (·.1)).Nodup → a ∈ Bs → b ∈ Bs → a.1 = b.1 → a = b
  | [], a, b, _, ha, _, _ => by cases ha
  | x :: Bs, a, b, hn, ha, hb, e => by
    rw [List.map_cons, List.nodup_cons] at hn
    rcases List.mem_cons.1 ha with h1 | h1 <;> rcases List.mem_cons.1 hb with h2 | h2
    · rw [h1, h2]
    · have h3 := List.mem_map_of_mem (f := fun y : Bk => y.1) h2
      rw [← e, h1] at h3
      exact absurd h3 hn.1
    · have h3 := List.mem_map_of_mem (f := fun y : Bk => y.1) h1
      rw [e, h2] at h3
      exact absurd h3 hn.1
    · exact bk_uniq hn.2 h1 h2 e
/-- the last pointer's cell is written: nothing, or a row of one's own whose cells are pointed to -/
theorem Nest.store {I : Imm} {Bs : List Bk} {st : List (Nat × Nat × List T)} {g i m c : Nat} {ts : List T} {A : Option Addr} (N : List Bk) (S : List (Nat × Nat × List T)) (h : Nest I Bs (st ++ [(g, i, ts)]))
    (hN : ((Bs ++ N).map (·.1)).Nodup) (hS : (S.map fun p => (p.1, p.2.1)).Nodup) (hSN : ∀ p ∈ S, ∃ b ∈ N, b.1 = p.1 ∧ p.2.1 < b.2.1 ∧ ∃ h A m c, CellAt b.2.2 p.2.1 h A m c ∧ RepS I (.slice A m c) p.2.2)
    (hNS : ∀ b ∈ N, b.2.1 * 2 ≤ b.2.2.length ∧ ∀ i, i < b.2.1 → ∃ ts, (b.1, i, ts) ∈ S) (hA : m = 0 ∨ ∃ g' cs', A = some ⟨g', 0, none⟩ ∧ (g', m, cs') ∈ N) :
    Nest I (Bs.map (updB g i (.slice A m c)) ++ N) (st ++ S) := by
  have hmap : ((Bs.map (updB g i (.slice A m c)) ++ N).map (·.1)) = (Bs ++ N).map (·.1) := by rw [List.map_append, updB_map, List.map_append]
  have hsd := h.sd
  rw [List.map_append, List.map_cons, List.map_nil] at hsd
  obtain ⟨hsd1, hsd2⟩ := nodup_last hsd
  have hkeep : ∀ p ∈ st, ∃ b ∈ Bs.map (updB g i (.slice A m c)), b.1 = p.1 ∧ p.2.1 < b.2.1 ∧ ∃ h A m c, CellAt b.2.2 p.2.1 h A m c ∧ RepS I (.slice A m c) p.2.2 := fun p hp => by
    obtain ⟨b, hb, h1, h2, q, A', m', c', h3, h4⟩ := h.pend p (List.mem_append_left _ hp)
    refine ⟨_, List.mem_map_of_mem hb, by rw [updB_fst]; exact h1, by rw [updB_n]; exact h2, q, A', m', c', updB_cell h3 (fun e e2 => hsd2 ?_), h4⟩
    refine List.mem_map.2 ⟨p, hp, ?_⟩
    rw [← h1, e, e2]
  refine ⟨by rw [hmap]; exact hN, ?_, fun p hp => ?_, fun b hb => ?_⟩
  · rw [List.map_append, List.nodup_append]
    refine ⟨hsd1, hS, fun a ha a' ha' e => ?_⟩
    subst e
    obtain ⟨p, hp, rfl⟩ := List.mem_map.1 ha
    obtain ⟨q, hq, he⟩ := List.mem_map.1 ha'
    obtain ⟨b, hb, h1, _⟩ := h.pend p (List.mem_append_left _ hp)
    obtain ⟨b', hb', h1', _⟩ := hSN q hq
    have hbb : b.1 = b'.1 := by rw [h1, h1']; exact (Prod.mk.inj he).1.symm
    rw [List.map_append, List.nodup_append] at hN
    exact hN.2.2 b.1 (List.mem_map_of_mem hb) b'.1 (List.mem_map_of_mem hb') hbb
  · rcases List.mem_append.1 hp with hp | hp
    · obtain ⟨b, hb, r⟩ := hkeep p hp
      exact ⟨b, List.mem_append_left _ hb, r⟩
    · obtain ⟨b, hb, r⟩ := hSN p hp
      exact ⟨b, List.mem_append_right _ hb, r⟩
  · rcases List.mem_append.1 hb with hb | hb
    · obtain ⟨b0, hb0, rfl⟩ := List.mem_map.1 hb
      obtain ⟨h1, h2⟩ := h.all b0 hb0
      refine ⟨by rw [updB_n, updB_len]; exact h1, fun j hj => ?_⟩
      rw [updB_n] at hj
      rw [updB_fst]
      by_cases hgi : b0.1 = g ∧ j = i
      · right
        obtain ⟨e1, e2⟩ := hgi
        subst e2
        obtain ⟨b1, hb1, h3, h4, q, A', m', c', h5, h6⟩ := h.pend (g, j, ts) (by simp)
        have hbb : b1 = b0 := bk_uniq h.nd hb1 hb0 (by rw [h3, e1])
        subst hbb
        refine ⟨q, A, m, c, ⟨?_, ?_, h5.2.2⟩, ?_⟩
        · unfold updB; rw [if_pos e1]
          show (b1.2.2.set _ _)[_]? = _
          rw [List.getElem?_set_ne (by omega)]; exact h5.1
        · unfold updB; rw [if_pos e1]
          show (b1.2.2.set _ _)[_]? = _
          rw [List.getElem?_set_self (by have := (List.getElem?_eq_some_iff.1 h5.2.1).1; exact this)]
        · rcases hA with hA | ⟨g', cs', hA, hm⟩
          · exact .inl hA
          · exact .inr ⟨g', cs', hA, List.mem_append_right _ hm⟩
      · rcases h2 j hj with ⟨us, hus⟩ | ⟨q, A', m', c', h3, h4⟩
        · left
          rcases List.mem_append.1 hus with hus | hus
          · exact ⟨us, List.mem_append_left _ hus⟩
          · rw [List.mem_singleton] at hus
            injection hus with e1 e2
            injection e2 with e2 e3
            exact absurd ⟨e1, e2⟩ hgi
        · right
          refine ⟨q, A', m', c', updB_cell h3 (fun e1 e2 => hgi ⟨e1, e2⟩), ?_⟩
          rcases h4 with h4 | ⟨g', cs', h4, h5⟩
          · exact .inl h4
          · refine .inr ⟨g', (updB g i (.slice A m c) (g', m', cs')).2.2, h4, List.mem_append_left _ (List.mem_map.2 ⟨_, h5, ?_⟩)⟩
            unfold updB; split <;> rfl
    · obtain ⟨h1, h2⟩ := hNS b hb
      exact ⟨h1, fun j hj => .inl (let ⟨us, hus⟩ := h2 j hj; ⟨us, List.mem_append_right _ hus⟩)⟩

/-- the box of a pointer, among the others -/
theorem swap_bx : ∀ {Bs : List Bk} {g n i : Nat} {cs : List Value} {v : Value} (X : List Ent), (Bs.map (·.1)).Nodup → (g, n, cs) ∈ Bs → Swap (Bs.map bx ++ X) (.box g 24 cs) ((Bs.map (updB g i v)).map bx ++ X) (.box g 24 (cs.set (i * 2 + 1) v))
  | [], _, _, _, _, _, _, _, h => by cases h
  | b :: Bs, g, n, i, cs, v, X, hnd, h => by
    rw [List.map_cons, List.nodup_cons] at hnd
    rcases List.mem_cons.1 h with rfl | h
    · have hrest : Bs.map (updB g i v) = Bs := by
        conv => rhs; rw [← List.map_id Bs]
        apply List.map_congr_left
        intro b hb
        unfold updB
        rw [if_neg (fun e => hnd.1 (by have h1 := List.mem_map_of_mem (f := fun x : Bk => x.1) hb; rw [e] at h1; exact h1))]
        rfl
      rw [List.map_cons, List.map_cons, List.map_cons, hrest]
      have e : updB g i v (g, n, cs) = (g, n, cs.set (i * 2 + 1) v) := by simp [updB]
      rw [e]
      exact Swap.here
    · have hb : b.1 ≠ g := fun e => hnd.1 (by rw [e]; exact List.mem_map_of_mem (f := (·.1)) h)
      have e : updB g i v b = b := by simp [updB, hb]
      rw [List.map_cons, List.map_cons, List.map_cons, e]
      exact Swap.there (swap_bx X hnd.2 h)
theorem has_bx {Bs : List Bk} {b : Bk} (X : List Ent) (h : b ∈ Bs) : Has (Bs.map bx ++ X) (bx b) := by
  induction Bs with
  | nil => cases h
  | cons a Bs ih =>
    rcases List.mem_cons.1 h with rfl | h
    · exact Has.here
    · exact Has.there (ih h)
end Go.Proofs.Ytdcklngleglbbaa
