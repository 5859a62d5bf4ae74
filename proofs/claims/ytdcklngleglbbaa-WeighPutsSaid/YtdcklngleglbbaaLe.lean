/- Plain facts on parts of terms. No condition. -/
import Derived.Test.YtdcklngleglbbaaIz
set_option linter.unusedVariables false
set_option linter.unusedSimpArgs false
namespace Go.Proofs.Ytdcklngleglbbaa
open Go Lg

theorem cmp_lessT {u t : T} (h : u.size < t.size) : cmpT u t = -1 := by
  obtain ⟨a, p⟩ := u
  obtain ⟨b, q⟩ := t
  simp only [T.size] at h
  simp only [cmpT]
  rw [if_pos (by omega)]
  unfold ordI
  rw [if_pos (by omega)]
theorem sizeL_take (l : List T) (k : Nat) (h : k < l.length) : sizeL (l.take (k + 1)) = sizeL (l.take k) + l[k].size := by
  rw [List.take_succ_eq_append_getElem h, sizeL_app]; simp [sizeL]
theorem depL_app (a b : List T) : depL (a ++ b) = max (depL a) (depL b) := by
  induction a with
  | nil => simp [depL]
  | cons x r ih => simp only [List.cons_append, depL, ih, Nat.max_assoc]
theorem depL_take (l : List T) (k : Nat) (h : k < l.length) : depL (l.take (k + 1)) = max (depL (l.take k)) (depT l[k]) := by
  rw [List.take_succ_eq_append_getElem h, depL_app]; simp [depL]
theorem depL_mem : ∀ (l : List T) (k : Nat) (h : k < l.length), depT l[k] ≤ depL l
  | t :: r, 0, _ => by simp only [depL, List.getElem_cons_zero]; omega
  | t :: r, k + 1, h => by have := depL_mem r k (by simpa using h); simp [depL]; omega
theorem sizeL_few : ∀ (l : List T) (m : Nat), (∀ t ∈ l, t.size ≤ m) → sizeL l ≤ l.length * m
  | [], _, _ => by simp [sizeL]
  | t :: r, m, h => by
    have h1 := h t (List.mem_cons_self ..)
    have h2 := sizeL_few r m (fun x hx => h x (List.mem_cons_of_mem _ hx))
    simp only [sizeL, List.length_cons, Nat.add_mul]; omega
mutual
theorem any_T : ∀ (d e : Nat) (t : T), (partsT d t).any badN = (partsT e t).any badN
  | d, e, .mk h ts => by
    simp only [partsT, List.any_cons]
    rw [any_L (d + 1) (e + 1) ts]
    rfl
theorem any_L : ∀ (d e : Nat) (ts : List T), (partsL d ts).any badN = (partsL e ts).any badN
  | _, _, [] => rfl
  | d, e, t :: r => by simp only [partsL, List.any_append]; rw [any_T d e t, any_L d e r]
end
theorem any_mem : ∀ (d : Nat) (l : List T) (k : Nat) (h : k < l.length), (partsL d l).any badN = false → (partsT d l[k]).any badN = false
  | d, t :: r, 0, _, h => by simp only [partsL, List.any_append, Bool.or_eq_false_iff] at h; exact h.1
  | d, t :: r, k + 1, hk, h => by
    simp only [partsL, List.any_append, Bool.or_eq_false_iff] at h
    exact any_mem d r k (by simpa using hk) h.2
theorem chk_part {h : Int} {ts : List T} (hc : chkT (.mk h ts) = 0) (k : Nat) (hk : k < ts.length) : chkT ts[k] = 0 := by
  have h1 := sizeL_mem ts k hk
  have h2 := depL_mem ts k hk
  have hsz : (T.mk h ts).size = 1 + sizeL ts := by simp [T.size]
  have hdp : depT (T.mk h ts) = 1 + depL ts := by simp [depT]
  unfold chkT at hc
  rw [hsz, hdp] at hc
  by_cases q1 : 400 < 1 + sizeL ts
  · rw [if_pos q1] at hc; omega
  · rw [if_neg q1] at hc
    by_cases q2 : 40 < 1 + depL ts
    · rw [if_pos q2] at hc; omega
    · rw [if_neg q2] at hc
      by_cases q3 : (partsT 1 (.mk h ts)).any badN = true
      · rw [if_pos q3] at hc; omega
      · have q4 : (partsL 2 ts).any badN = false := by
          simp only [partsT, List.any_cons, Bool.or_eq_true, not_or] at q3
          simpa using q3.2
        have q5 := any_mem 2 ts k hk q4
        rw [any_T 2 1] at q5
        unfold chkT
        rw [if_neg (by omega), if_neg (by omega), q5]
        rfl

end Go.Proofs.Ytdcklngleglbbaa
