/- Walk: a copy of a term in memory of its own, by the program. -/
import Derived.Test.YtdcklngleglbbaaTc
set_option linter.unusedVariables false
set_option linter.unusedSimpArgs false
namespace Go.Proofs.Ytdcklngleglbbaa
open Go Lg

theorem Lg.OpsJ.apartFact {C : Ctx} {Q : Exit → Act → World → Prop} {σ : Env} {ds : List Nat} {I : Imm} {δ : List Ent} {ops : Array Oper} {rest : List Oper} (h : (blks δ).Nodup → OpsJ C ops Q rest σ ds I δ) : OpsJ C ops Q rest σ ds I δ :=
  fun a w he hs ht => h hs.nodup a w he hs ht
def ptrOf (p : Nat × Nat × List T) : Value := .pointer (some ⟨p.1, p.2.1 * 2, none⟩)
def stSize (st : List (Nat × Nat × List T)) : Nat := (st.map fun p => 1 + sizeL p.2.2).sum
theorem stSize_app (a b : List (Nat × Nat × List T)) : stSize (a ++ b) = stSize a + stSize b := by simp [stSize]
theorem stSize_len (st : List (Nat × Nat × List T)) : st.length ≤ stSize st := by
  induction st with
  | nil => simp
  | cons p r ih => simp [stSize] at ih ⊢; omega
/-- the cells of a clone -/
def pushes (g : Nat) (ts : List T) (k : Nat) : List (Nat × Nat × List T) := (List.range k).map fun j => (g, j, (ts.getD j zeroT).args)
theorem pushes_snoc (g : Nat) (ts : List T) (k : Nat) (h : k < ts.length) : pushes g ts (k + 1) = pushes g ts k ++ [(g, k, ts[k].args)] := by simp [pushes, List.range_succ, h]
theorem pushes_size (g : Nat) : ∀ (ts : List T) (k : Nat), k ≤ ts.length → stSize (pushes g ts k) = sizeL (ts.take k)
  | ts, 0, _ => by simp [pushes, stSize, sizeL]
  | ts, k + 1, h => by
    rw [pushes_snoc g ts k h, stSize_app, pushes_size g ts k (by omega), List.take_succ_eq_append_getElem h, sizeL_app]
    have : ts[k].size = 1 + sizeL ts[k].args := by cases ts[k]; simp [T.size, T.args]
    simp [stSize, sizeL, this]
theorem pushes_nodup (g : Nat) (ts : List T) (k : Nat) : ((pushes g ts k).map fun p => (p.1, p.2.1)).Nodup := by
  unfold pushes
  rw [List.map_map]
  unfold List.Nodup
  rw [List.pairwise_map]
  exact List.Pairwise.imp (fun hne e => hne (by injection e)) List.nodup_range

def CopyR (v : Value) (I : Imm) (δ : List Ent) : Prop :=
  ∃ (h : Int) (A : Option Addr) (m c : Nat) (Bs : List Bk), v = .agg #[.int .i64 h, .slice A m c] ∧ InR h ∧ δ = Bs.map bx ∧ Nest I Bs [] ∧ (m = 0 ∨ ∃ g' cs', A = some ⟨g', 0, none⟩ ∧ (g', m, cs') ∈ Bs)

theorem Nest.start {I : Imm} {b : Nat} {t : T} {a : Option Addr} {c : Nat} (hr : InR t.head) (hs : RepS I (.slice a t.args.length c) t.args) : Nest I [(b, 1, [.int .i64 t.head, .slice a t.args.length c])] [(b, 0, t.args)] := by
  refine ⟨by simp, by simp, fun p hp => ?_, fun b' hb => ?_⟩
  · rw [List.mem_singleton] at hp
    subst hp
    exact ⟨_, List.mem_singleton.2 rfl, rfl, by simp, _, _, _, _, ⟨rfl, rfl, hr⟩, hs⟩
  · rw [List.mem_singleton] at hb
    subst hb
    refine ⟨by simp, fun i hi => .inl ⟨t.args, ?_⟩⟩
    have : i = 0 := by simpa using hi
    subst this
    simp
theorem mem_blks_bx {Bs : List Bk} {X : List Ent} {g : Nat} (h : g ∈ Bs.map (·.1)) : g ∈ blks (Bs.map bx ++ X) := by
  obtain ⟨b, hb, rfl⟩ := List.mem_map.1 h
  exact List.mem_filterMap.2 ⟨bx b, List.mem_append_left _ (List.mem_map_of_mem hb), rfl⟩
end Go.Proofs.Ytdcklngleglbbaa
