/- Walks: whether a term is one of a signature. -/
import Derived.Test.YtdcklngleglbbaaGc
set_option linter.unusedVariables false
set_option linter.unusedSimpArgs false
namespace Go.Proofs.Ytdcklngleglbbaa
open Go Lg

def arG (gs : List Sy) (h : Int) : Int := (gs[h.toNat]?.map Sy.ar).getD 0
def trG (gs : List Sy) (h : Int) : Bool := (gs[h.toNat]?.map Sy.tr).getD false
def unkB (gs : List Sy) (x : Bool × T) : Bool := decide (0 ≤ x.2.head) && (decide ((gs.length : Int) ≤ x.2.head) || decide ((x.2.args.length : Int) ≠ arG gs x.2.head))
def mixB (gs : List Sy) (x : Bool × T) : Bool := decide (0 ≤ x.2.head) && (!(unkB gs x) && (trG gs x.2.head && !x.1))
def SeeG (gs : List Sy) (b8 b7 b3 b2 : Nat) (cs gc : List Value) (l : List (Bool × T)) : List Ent :=
  [.box b8 4 [.bool (l.any (mixB gs))], .box b7 4 [.bool (l.any (unkB gs))], .box b3 24 cs, .box b2 43 gc]
theorem any_snoc {α : Type} (p : α → Bool) (l : List α) (x : α) : (l ++ [x]).any p = (l.any p || p x) := by simp
theorem arG_at {gs : List Sy} {h : Int} (h0 : 0 ≤ h) (hl : h < gs.length) : arG gs h = (gs[h.toNat]'(by omega)).ar := by
  have : h.toNat < gs.length := by omega
  simp [arG, this]
theorem trG_at {gs : List Sy} {h : Int} (h0 : 0 ≤ h) (hl : h < gs.length) : trG gs h = (gs[h.toNat]'(by omega)).tr := by
  have : h.toNat < gs.length := by omega
  simp [trG, this]

theorem Term1_does {I : Imm} {gs : List Sy} {b8 b7 b3 b2 c : Nat} {ad : Option Addr} {cs : List Value} {pre : List (Bool × T)} {v : Value} {x : Bool × T} (hv : RepT I v x.2) (hg : RepG I (.slice ad gs.length c) gs) :
    Does Try.prog 79 [v, .bool x.1, .pointer (some ⟨b2, 0, none⟩), .pointer (some ⟨b7, 0, none⟩), .pointer (some ⟨b8, 0, none⟩)] I (SeeG gs b8 b7 b3 b2 cs [.slice ad gs.length c] pre) (fun _ _ δ' => δ' = SeeG gs b8 b7 b3 b2 cs [.slice ad gs.length c] (pre ++ [x])) := by
  obtain ⟨top, t⟩ := x
  obtain ⟨a0, c0, rfl, hr0⟩ := hv.shape
  obtain ⟨_, hc, hb, hat, hok⟩ := hg.open
  have hu : ∀ b, unkB gs (top, t) = b → (pre ++ [(top, t)]).any (unkB gs) = (pre.any (unkB gs) || b) := fun b hb => by rw [any_snoc, hb]
  have hx : ∀ b, mixB gs (top, t) = b → (pre ++ [(top, t)]).any (mixB gs) = (pre.any (mixB gs) || b) := fun b hb => by rw [any_snoc, hb]
  simp only at hr0
  unfold SeeG
  refine Does.intro Try.func79 rfl Try.ntmps79 rfl fun w0 => ?_
  refine code_seq ?_
  refine code_region ?_
  refine o_box rfl rfl rfl (fun b5 => ?_)
  refine ops_nil ?_
  refine post_next ?_
  refine code_block ?_
  refine code_seq ?_
  refine code_region ?_
  first | refine op_v (v_fieldB 0 Try.underlying24 rfl rfl fz3 rfl) rfl ?_ | refine op_v (v_fieldI 0 Try.underlying24 rfl rfl fz3 rfl (by assumption)) rfl ?_ | refine op_v (v_field Try.underlying24 rfl fz3 rfl rfl) rfl ?_
  refine op_v (v_load ty3 rfl (by repeat (first | exact Has.here | apply Has.there)) rfl) rfl ?_
  by_cases h10 : t.head < 0
  · first | refine op_v (v_cmpt rfl rfl rfl (by first | omega | (simp; done) | (simp; omega))) rfl ?_ | refine op_v (v_cmpf rfl rfl rfl (by first | omega | (simp; done) | (simp; omega))) rfl ?_ | refine op_v (v_cmp rfl rfl rfl) rfl ?_
    refine op_v (v_assign rfl) rfl ?_
    refine ops_nil ?_
    refine post_next ?_
    refine code_cond_t rfl ?_
    refine code_skip ?_
    refine post_out ?_
    have hn : ¬ 0 ≤ t.head := by omega
    have e1 : unkB gs (top, t) = false := by simp [unkB, hn]
    have e2 : mixB gs (top, t) = false := by simp [mixB, hn]
    exact post_end (rs := []) rfl (List.Perm.refl _) .nil (List.sublist_cons_self _ _) (by rw [hu _ e1, hx _ e2]; simp)
  · first | refine op_v (v_cmpt rfl rfl rfl (by first | omega | (simp; done) | (simp; omega))) rfl ?_ | refine op_v (v_cmpf rfl rfl rfl (by first | omega | (simp; done) | (simp; omega))) rfl ?_ | refine op_v (v_cmp rfl rfl rfl) rfl ?_
    refine op_v (v_assign rfl) rfl ?_
    refine ops_nil ?_
    refine post_next ?_
    refine code_cond_f rfl ?_
    refine code_seq ?_
    refine code_draw (.fl 0 (.fl 1 (.fl 2 (.fl 3 (.fl 4 (.fl 5 (.fl 6 (.fl 7 (.fl 8 (.fl 9 (.fl 10 (.fl 11 (.fl 12 (.fl 13 (.fl 14 (.fl 15 (.fl 16 (.ef 17 .done)))))))))))))))))) (fun _ => _) mixed (by kernel_rfl) (by kernel_rfl) (fun _ => (List.Sublist.refl _)) ?_
    first | refine e_float rfl rfl (fun hs_ => PF.mk rfl (v_fieldB 0 Try.underlying24 rfl rfl fz3 rfl) hs_) (by repeat (first | exact Imm.le_refl _ | assumption | refine Imm.le_trans ?_ (by assumption))) (by intro x hx; first | exact hx | exact List.mem_cons_of_mem _ hx | exact List.mem_append_right _ hx | (simp only [List.mem_cons, List.not_mem_nil, or_false] at hx; repeat' (first | (subst hx; simp [cellsL]; done) | rcases hx with hx | hx)) | simp_all) ?_ | refine e_float rfl rfl (fun hs_ => PF.mk rfl (v_fieldI 0 Try.underlying24 rfl rfl fz3 rfl (by assumption)) hs_) (by repeat (first | exact Imm.le_refl _ | assumption | refine Imm.le_trans ?_ (by assumption))) (by intro x hx; first | exact hx | exact List.mem_cons_of_mem _ hx | exact List.mem_append_right _ hx | (simp only [List.mem_cons, List.not_mem_nil, or_false] at hx; repeat' (first | (subst hx; simp [cellsL]; done) | rcases hx with hx | hx)) | simp_all) ?_ | refine e_float rfl rfl (fun hs_ => PF.mk rfl (v_field Try.underlying24 rfl fz3 rfl rfl) hs_) (by repeat (first | exact Imm.le_refl _ | assumption | refine Imm.le_trans ?_ (by assumption))) (by intro x hx; first | exact hx | exact List.mem_cons_of_mem _ hx | exact List.mem_append_right _ hx | (simp only [List.mem_cons, List.not_mem_nil, or_false] at hx; repeat' (first | (subst hx; simp [cellsL]; done) | rcases hx with hx | hx)) | simp_all) ?_
    refine e_float rfl rfl (fun hs_ => PF.mk rfl (v_load ty3 rfl (by repeat (first | exact Has.here | apply Has.there)) rfl) hs_) (by repeat (first | exact Imm.le_refl _ | assumption | refine Imm.le_trans ?_ (by assumption))) (by intro x hx; first | exact hx | exact List.mem_cons_of_mem _ hx | exact List.mem_append_right _ hx | (simp only [List.mem_cons, List.not_mem_nil, or_false] at hx; repeat' (first | (subst hx; simp [cellsL]; done) | rcases hx with hx | hx)) | simp_all) ?_
    refine e_float rfl rfl (fun hs_ => PF.mk rfl (v_load ty43 rfl (by repeat (first | exact Has.here | apply Has.there)) rfl) hs_) (by repeat (first | exact Imm.le_refl _ | assumption | refine Imm.le_trans ?_ (by assumption))) (by intro x hx; first | exact hx | exact List.mem_cons_of_mem _ hx | exact List.mem_append_right _ hx | (simp only [List.mem_cons, List.not_mem_nil, or_false] at hx; repeat' (first | (subst hx; simp [cellsL]; done) | rcases hx with hx | hx)) | simp_all) ?_
    refine e_float rfl rfl (fun hs_ => PF.mk rfl (v_len Try.underlying43 rfl) hs_) (by repeat (first | exact Imm.le_refl _ | assumption | refine Imm.le_trans ?_ (by assumption))) (by intro x hx; first | exact hx | exact List.mem_cons_of_mem _ hx | exact List.mem_append_right _ hx | (simp only [List.mem_cons, List.not_mem_nil, or_false] at hx; repeat' (first | (subst hx; simp [cellsL]; done) | rcases hx with hx | hx)) | simp_all) ?_
    by_cases h16 : (gs.length : Int) ≤ t.head
    · first | refine e_float rfl rfl (fun hs_ => PF.mk rfl (v_cmpt rfl rfl rfl (by first | omega | (simp; done) | (simp; omega))) hs_) (by repeat (first | exact Imm.le_refl _ | assumption | refine Imm.le_trans ?_ (by assumption))) (by intro x hx; first | exact hx | exact List.mem_cons_of_mem _ hx | exact List.mem_append_right _ hx | (simp only [List.mem_cons, List.not_mem_nil, or_false] at hx; repeat' (first | (subst hx; simp [cellsL]; done) | rcases hx with hx | hx)) | simp_all) ?_ | refine e_float rfl rfl (fun hs_ => PF.mk rfl (v_cmpf rfl rfl rfl (by first | omega | (simp; done) | (simp; omega))) hs_) (by repeat (first | exact Imm.le_refl _ | assumption | refine Imm.le_trans ?_ (by assumption))) (by intro x hx; first | exact hx | exact List.mem_cons_of_mem _ hx | exact List.mem_append_right _ hx | (simp only [List.mem_cons, List.not_mem_nil, or_false] at hx; repeat' (first | (subst hx; simp [cellsL]; done) | rcases hx with hx | hx)) | simp_all) ?_ | refine e_float rfl rfl (fun hs_ => PF.mk rfl (v_cmp rfl rfl rfl) hs_) (by repeat (first | exact Imm.le_refl _ | assumption | refine Imm.le_trans ?_ (by assumption))) (by intro x hx; first | exact hx | exact List.mem_cons_of_mem _ hx | exact List.mem_append_right _ hx | (simp only [List.mem_cons, List.not_mem_nil, or_false] at hx; repeat' (first | (subst hx; simp [cellsL]; done) | rcases hx with hx | hx)) | simp_all) ?_
      refine e_float rfl rfl (fun hs_ => PF.mk rfl (v_move rfl) hs_) (by repeat (first | exact Imm.le_refl _ | assumption | refine Imm.le_trans ?_ (by assumption))) (by intro x hx; first | exact hx | exact List.mem_cons_of_mem _ hx | exact List.mem_append_right _ hx | (simp only [List.mem_cons, List.not_mem_nil, or_false] at hx; repeat' (first | (subst hx; simp [cellsL]; done) | rcases hx with hx | hx)) | simp_all) ?_
      first | refine e_float rfl rfl (fun hs_ => PF.mkg rfl rfl rfl (v_fieldB 1 Try.underlying24 rfl rfl fz22 rfl) hs_) (by repeat (first | exact Imm.le_refl _ | assumption | refine Imm.le_trans ?_ (by assumption))) (by intro x hx; first | exact hx | exact List.mem_cons_of_mem _ hx | exact List.mem_append_right _ hx | (simp only [List.mem_cons, List.not_mem_nil, or_false] at hx; repeat' (first | (subst hx; simp [cellsL]; done) | rcases hx with hx | hx)) | simp_all) ?_ | refine e_float rfl rfl (fun hs_ => PF.mkg rfl rfl rfl (v_fieldI 1 Try.underlying24 rfl rfl fz22 rfl (by assumption)) hs_) (by repeat (first | exact Imm.le_refl _ | assumption | refine Imm.le_trans ?_ (by assumption))) (by intro x hx; first | exact hx | exact List.mem_cons_of_mem _ hx | exact List.mem_append_right _ hx | (simp only [List.mem_cons, List.not_mem_nil, or_false] at hx; repeat' (first | (subst hx; simp [cellsL]; done) | rcases hx with hx | hx)) | simp_all) ?_ | refine e_float rfl rfl (fun hs_ => PF.mkg rfl rfl rfl (v_field Try.underlying24 rfl fz22 rfl rfl) hs_) (by repeat (first | exact Imm.le_refl _ | assumption | refine Imm.le_trans ?_ (by assumption))) (by intro x hx; first | exact hx | exact List.mem_cons_of_mem _ hx | exact List.mem_append_right _ hx | (simp only [List.mem_cons, List.not_mem_nil, or_false] at hx; repeat' (first | (subst hx; simp [cellsL]; done) | rcases hx with hx | hx)) | simp_all) ?_ | refine e_float rfl rfl (fun hs_ => PF.mks rfl (by intro c hc; cases hc) rfl rfl (by simp [undef]) hs_) (by repeat (first | exact Imm.le_refl _ | assumption | refine Imm.le_trans ?_ (by assumption))) (by intro x hx; first | exact hx | exact List.mem_cons_of_mem _ hx | exact List.mem_append_right _ hx | (simp only [List.mem_cons, List.not_mem_nil, or_false] at hx; repeat' (first | (subst hx; simp [cellsL]; done) | rcases hx with hx | hx)) | simp_all) ?_
      first | refine e_float rfl rfl (fun hs_ => PF.mkg rfl rfl rfl (v_load ty22 rfl (by repeat (first | exact Has.here | apply Has.there)) rfl) hs_) (by repeat (first | exact Imm.le_refl _ | assumption | refine Imm.le_trans ?_ (by assumption))) (by intro x hx; first | exact hx | exact List.mem_cons_of_mem _ hx | exact List.mem_append_right _ hx | (simp only [List.mem_cons, List.not_mem_nil, or_false] at hx; repeat' (first | (subst hx; simp [cellsL]; done) | rcases hx with hx | hx)) | simp_all) ?_ | refine e_float rfl rfl (fun hs_ => PF.mks rfl (by intro c hc; cases hc) rfl rfl (by simp [undef]) hs_) (by repeat (first | exact Imm.le_refl _ | assumption | refine Imm.le_trans ?_ (by assumption))) (by intro x hx; first | exact hx | exact List.mem_cons_of_mem _ hx | exact List.mem_append_right _ hx | (simp only [List.mem_cons, List.not_mem_nil, or_false] at hx; repeat' (first | (subst hx; simp [cellsL]; done) | rcases hx with hx | hx)) | simp_all) ?_
      first | refine e_float rfl rfl (fun hs_ => PF.mkg rfl rfl rfl (v_len Try.underlying22 rfl) hs_) (by repeat (first | exact Imm.le_refl _ | assumption | refine Imm.le_trans ?_ (by assumption))) (by intro x hx; first | exact hx | exact List.mem_cons_of_mem _ hx | exact List.mem_append_right _ hx | (simp only [List.mem_cons, List.not_mem_nil, or_false] at hx; repeat' (first | (subst hx; simp [cellsL]; done) | rcases hx with hx | hx)) | simp_all) ?_ | refine e_float rfl rfl (fun hs_ => PF.mks rfl (by intro c hc; cases hc) rfl rfl (by simp [undef]) hs_) (by repeat (first | exact Imm.le_refl _ | assumption | refine Imm.le_trans ?_ (by assumption))) (by intro x hx; first | exact hx | exact List.mem_cons_of_mem _ hx | exact List.mem_append_right _ hx | (simp only [List.mem_cons, List.not_mem_nil, or_false] at hx; repeat' (first | (subst hx; simp [cellsL]; done) | rcases hx with hx | hx)) | simp_all) ?_
      first | refine e_float rfl rfl (fun hs_ => PF.mkg rfl rfl rfl (v_load ty43 rfl (by repeat (first | exact Has.here | apply Has.there)) rfl) hs_) (by repeat (first | exact Imm.le_refl _ | assumption | refine Imm.le_trans ?_ (by assumption))) (by intro x hx; first | exact hx | exact List.mem_cons_of_mem _ hx | exact List.mem_append_right _ hx | (simp only [List.mem_cons, List.not_mem_nil, or_false] at hx; repeat' (first | (subst hx; simp [cellsL]; done) | rcases hx with hx | hx)) | simp_all) ?_ | refine e_float rfl rfl (fun hs_ => PF.mks rfl (by intro c hc; cases hc) rfl rfl (by simp [undef]) hs_) (by repeat (first | exact Imm.le_refl _ | assumption | refine Imm.le_trans ?_ (by assumption))) (by intro x hx; first | exact hx | exact List.mem_cons_of_mem _ hx | exact List.mem_append_right _ hx | (simp only [List.mem_cons, List.not_mem_nil, or_false] at hx; repeat' (first | (subst hx; simp [cellsL]; done) | rcases hx with hx | hx)) | simp_all) ?_
      first | refine e_float rfl rfl (fun hs_ => PF.mkg rfl rfl rfl (v_fieldB 0 Try.underlying24 rfl rfl fz3 rfl) hs_) (by repeat (first | exact Imm.le_refl _ | assumption | refine Imm.le_trans ?_ (by assumption))) (by intro x hx; first | exact hx | exact List.mem_cons_of_mem _ hx | exact List.mem_append_right _ hx | (simp only [List.mem_cons, List.not_mem_nil, or_false] at hx; repeat' (first | (subst hx; simp [cellsL]; done) | rcases hx with hx | hx)) | simp_all) ?_ | refine e_float rfl rfl (fun hs_ => PF.mkg rfl rfl rfl (v_fieldI 0 Try.underlying24 rfl rfl fz3 rfl (by assumption)) hs_) (by repeat (first | exact Imm.le_refl _ | assumption | refine Imm.le_trans ?_ (by assumption))) (by intro x hx; first | exact hx | exact List.mem_cons_of_mem _ hx | exact List.mem_append_right _ hx | (simp only [List.mem_cons, List.not_mem_nil, or_false] at hx; repeat' (first | (subst hx; simp [cellsL]; done) | rcases hx with hx | hx)) | simp_all) ?_ | refine e_float rfl rfl (fun hs_ => PF.mkg rfl rfl rfl (v_field Try.underlying24 rfl fz3 rfl rfl) hs_) (by repeat (first | exact Imm.le_refl _ | assumption | refine Imm.le_trans ?_ (by assumption))) (by intro x hx; first | exact hx | exact List.mem_cons_of_mem _ hx | exact List.mem_append_right _ hx | (simp only [List.mem_cons, List.not_mem_nil, or_false] at hx; repeat' (first | (subst hx; simp [cellsL]; done) | rcases hx with hx | hx)) | simp_all) ?_ | refine e_float rfl rfl (fun hs_ => PF.mks rfl (by intro c hc; cases hc) rfl rfl (by simp [undef]) hs_) (by repeat (first | exact Imm.le_refl _ | assumption | refine Imm.le_trans ?_ (by assumption))) (by intro x hx; first | exact hx | exact List.mem_cons_of_mem _ hx | exact List.mem_append_right _ hx | (simp only [List.mem_cons, List.not_mem_nil, or_false] at hx; repeat' (first | (subst hx; simp [cellsL]; done) | rcases hx with hx | hx)) | simp_all) ?_
      first | refine e_float rfl rfl (fun hs_ => PF.mkg rfl rfl rfl (v_load ty3 rfl (by repeat (first | exact Has.here | apply Has.there)) rfl) hs_) (by repeat (first | exact Imm.le_refl _ | assumption | refine Imm.le_trans ?_ (by assumption))) (by intro x hx; first | exact hx | exact List.mem_cons_of_mem _ hx | exact List.mem_append_right _ hx | (simp only [List.mem_cons, List.not_mem_nil, or_false] at hx; repeat' (first | (subst hx; simp [cellsL]; done) | rcases hx with hx | hx)) | simp_all) ?_ | refine e_float rfl rfl (fun hs_ => PF.mks rfl (by intro c hc; cases hc) rfl rfl (by simp [undef]) hs_) (by repeat (first | exact Imm.le_refl _ | assumption | refine Imm.le_trans ?_ (by assumption))) (by intro x hx; first | exact hx | exact List.mem_cons_of_mem _ hx | exact List.mem_append_right _ hx | (simp only [List.mem_cons, List.not_mem_nil, or_false] at hx; repeat' (first | (subst hx; simp [cellsL]; done) | rcases hx with hx | hx)) | simp_all) ?_
      first | refine e_float rfl rfl (fun hs_ => PF.mkg rfl rfl rfl (v_index Try.underlying43 sz49 rfl rfl (by omega) (by assumption)) hs_) (by repeat (first | exact Imm.le_refl _ | assumption | refine Imm.le_trans ?_ (by assumption))) (by intro x hx; first | exact hx | exact List.mem_cons_of_mem _ hx | exact List.mem_append_right _ hx | (simp only [List.mem_cons, List.not_mem_nil, or_false] at hx; repeat' (first | (subst hx; simp [cellsL]; done) | rcases hx with hx | hx)) | simp_all) ?_ | refine e_float rfl rfl (fun hs_ => PF.mkg rfl rfl rfl (v_indexI Try.underlying43 sz49 rfl rfl (by first | omega | (simp; done) | (simp; omega)) (by first | omega | (simp; done) | (simp; omega)) (by assumption)) hs_) (by repeat (first | exact Imm.le_refl _ | assumption | refine Imm.le_trans ?_ (by assumption))) (by intro x hx; first | exact hx | exact List.mem_cons_of_mem _ hx | exact List.mem_append_right _ hx | (simp only [List.mem_cons, List.not_mem_nil, or_false] at hx; repeat' (first | (subst hx; simp [cellsL]; done) | rcases hx with hx | hx)) | simp_all) ?_ | refine e_float rfl rfl (fun hs_ => PF.mks rfl (by intro c hc; cases hc) rfl rfl (by simp [undef]) hs_) (by repeat (first | exact Imm.le_refl _ | assumption | refine Imm.le_trans ?_ (by assumption))) (by intro x hx; first | exact hx | exact List.mem_cons_of_mem _ hx | exact List.mem_append_right _ hx | (simp only [List.mem_cons, List.not_mem_nil, or_false] at hx; repeat' (first | (subst hx; simp [cellsL]; done) | rcases hx with hx | hx)) | simp_all) ?_
      first | refine e_float rfl rfl (fun hs_ => PF.mkg rfl rfl rfl (v_fieldB 1 Try.underlying49 rfl rfl fz3 rfl) hs_) (by repeat (first | exact Imm.le_refl _ | assumption | refine Imm.le_trans ?_ (by assumption))) (by intro x hx; first | exact hx | exact List.mem_cons_of_mem _ hx | exact List.mem_append_right _ hx | (simp only [List.mem_cons, List.not_mem_nil, or_false] at hx; repeat' (first | (subst hx; simp [cellsL]; done) | rcases hx with hx | hx)) | simp_all) ?_ | refine e_float rfl rfl (fun hs_ => PF.mkg rfl rfl rfl (v_fieldI 1 Try.underlying49 rfl rfl fz3 rfl (by assumption)) hs_) (by repeat (first | exact Imm.le_refl _ | assumption | refine Imm.le_trans ?_ (by assumption))) (by intro x hx; first | exact hx | exact List.mem_cons_of_mem _ hx | exact List.mem_append_right _ hx | (simp only [List.mem_cons, List.not_mem_nil, or_false] at hx; repeat' (first | (subst hx; simp [cellsL]; done) | rcases hx with hx | hx)) | simp_all) ?_ | refine e_float rfl rfl (fun hs_ => PF.mkg rfl rfl rfl (v_field Try.underlying49 rfl fz3 rfl rfl) hs_) (by repeat (first | exact Imm.le_refl _ | assumption | refine Imm.le_trans ?_ (by assumption))) (by intro x hx; first | exact hx | exact List.mem_cons_of_mem _ hx | exact List.mem_append_right _ hx | (simp only [List.mem_cons, List.not_mem_nil, or_false] at hx; repeat' (first | (subst hx; simp [cellsL]; done) | rcases hx with hx | hx)) | simp_all) ?_ | refine e_float rfl rfl (fun hs_ => PF.mks rfl (by intro c hc; cases hc) rfl rfl (by simp [undef]) hs_) (by repeat (first | exact Imm.le_refl _ | assumption | refine Imm.le_trans ?_ (by assumption))) (by intro x hx; first | exact hx | exact List.mem_cons_of_mem _ hx | exact List.mem_append_right _ hx | (simp only [List.mem_cons, List.not_mem_nil, or_false] at hx; repeat' (first | (subst hx; simp [cellsL]; done) | rcases hx with hx | hx)) | simp_all) ?_
      first | refine e_float rfl rfl (fun hs_ => PF.mkg rfl rfl rfl (v_loadI0 ty3 (hat _ hlt) rfl rfl rfl) hs_) (by repeat (first | exact Imm.le_refl _ | assumption | refine Imm.le_trans ?_ (by assumption))) (by intro x hx; first | exact hx | exact List.mem_cons_of_mem _ hx | exact List.mem_append_right _ hx | (simp only [List.mem_cons, List.not_mem_nil, or_false] at hx; repeat' (first | (subst hx; simp [cellsL]; done) | rcases hx with hx | hx)) | simp_all) ?_ | refine e_float rfl rfl (fun hs_ => PF.mkg rfl rfl rfl (v_loadI ty3 (hat _ hlt) rfl rfl rfl) hs_) (by repeat (first | exact Imm.le_refl _ | assumption | refine Imm.le_trans ?_ (by assumption))) (by intro x hx; first | exact hx | exact List.mem_cons_of_mem _ hx | exact List.mem_append_right _ hx | (simp only [List.mem_cons, List.not_mem_nil, or_false] at hx; repeat' (first | (subst hx; simp [cellsL]; done) | rcases hx with hx | hx)) | simp_all) ?_ | refine e_float rfl rfl (fun hs_ => PF.mks rfl (by intro c hc; cases hc) rfl rfl (by simp [undef]) hs_) (by repeat (first | exact Imm.le_refl _ | assumption | refine Imm.le_trans ?_ (by assumption))) (by intro x hx; first | exact hx | exact List.mem_cons_of_mem _ hx | exact List.mem_append_right _ hx | (simp only [List.mem_cons, List.not_mem_nil, or_false] at hx; repeat' (first | (subst hx; simp [cellsL]; done) | rcases hx with hx | hx)) | simp_all) ?_
      first | refine e_float rfl rfl (fun hs_ => PF.mkg rfl rfl rfl (v_cmpt rfl rfl rfl (by first | omega | (simp; done) | (simp; omega))) hs_) (by repeat (first | exact Imm.le_refl _ | assumption | refine Imm.le_trans ?_ (by assumption))) (by intro x hx; first | exact hx | exact List.mem_cons_of_mem _ hx | exact List.mem_append_right _ hx | (simp only [List.mem_cons, List.not_mem_nil, or_false] at hx; repeat' (first | (subst hx; simp [cellsL]; done) | rcases hx with hx | hx)) | simp_all) ?_ | refine e_float rfl rfl (fun hs_ => PF.mkg rfl rfl rfl (v_cmpf rfl rfl rfl (by first | omega | (simp; done) | (simp; omega))) hs_) (by repeat (first | exact Imm.le_refl _ | assumption | refine Imm.le_trans ?_ (by assumption))) (by intro x hx; first | exact hx | exact List.mem_cons_of_mem _ hx | exact List.mem_append_right _ hx | (simp only [List.mem_cons, List.not_mem_nil, or_false] at hx; repeat' (first | (subst hx; simp [cellsL]; done) | rcases hx with hx | hx)) | simp_all) ?_ | refine e_float rfl rfl (fun hs_ => PF.mkg rfl rfl rfl (v_cmp rfl rfl rfl) hs_) (by repeat (first | exact Imm.le_refl _ | assumption | refine Imm.le_trans ?_ (by assumption))) (by intro x hx; first | exact hx | exact List.mem_cons_of_mem _ hx | exact List.mem_append_right _ hx | (simp only [List.mem_cons, List.not_mem_nil, or_false] at hx; repeat' (first | (subst hx; simp [cellsL]; done) | rcases hx with hx | hx)) | simp_all) ?_ | refine e_float rfl rfl (fun hs_ => PF.mks rfl (by intro c hc; cases hc) rfl rfl (by simp [undef]) hs_) (by repeat (first | exact Imm.le_refl _ | assumption | refine Imm.le_trans ?_ (by assumption))) (by intro x hx; first | exact hx | exact List.mem_cons_of_mem _ hx | exact List.mem_append_right _ hx | (simp only [List.mem_cons, List.not_mem_nil, or_false] at hx; repeat' (first | (subst hx; simp [cellsL]; done) | rcases hx with hx | hx)) | simp_all) ?_
      first | refine e_float rfl rfl (fun hs_ => PF.mk rfl (v_pickt rfl rfl) hs_) (by repeat (first | exact Imm.le_refl _ | assumption | refine Imm.le_trans ?_ (by assumption))) (by intro x hx; first | exact hx | exact List.mem_cons_of_mem _ hx | exact List.mem_append_right _ hx | (simp only [List.mem_cons, List.not_mem_nil, or_false] at hx; repeat' (first | (subst hx; simp [cellsL]; done) | rcases hx with hx | hx)) | simp_all) ?_ | refine e_float rfl rfl (fun hs_ => PF.mk rfl (v_pickf rfl rfl) hs_) (by repeat (first | exact Imm.le_refl _ | assumption | refine Imm.le_trans ?_ (by assumption))) (by intro x hx; first | exact hx | exact List.mem_cons_of_mem _ hx | exact List.mem_append_right _ hx | (simp only [List.mem_cons, List.not_mem_nil, or_false] at hx; repeat' (first | (subst hx; simp [cellsL]; done) | rcases hx with hx | hx)) | simp_all) ?_ | refine e_float rfl rfl (fun hs_ => PF.mk rfl (v_pickb rfl rfl rfl) hs_) (by repeat (first | exact Imm.le_refl _ | assumption | refine Imm.le_trans ?_ (by assumption))) (by intro x hx; first | exact hx | exact List.mem_cons_of_mem _ hx | exact List.mem_append_right _ hx | (simp only [List.mem_cons, List.not_mem_nil, or_false] at hx; repeat' (first | (subst hx; simp [cellsL]; done) | rcases hx with hx | hx)) | simp_all) ?_
      refine e_eff rfl (by intro cs b hc; cases hc) (by intro c hc; cases hc) ?_
      refine op_v (v_assign rfl) rfl ?_
      refine ops_nil ?_
      refine e_next rfl (side_all (by repeat (first | exact Imm.le_refl _ | assumption | refine Imm.le_trans ?_ (by assumption))) (fun _ => (by intro x hx; first | exact hx | exact List.mem_cons_of_mem _ hx | exact List.mem_append_right _ hx | (simp only [List.mem_cons, List.not_mem_nil, or_false] at hx; repeat' (first | (subst hx; simp [cellsL]; done) | rcases hx with hx | hx)) | simp_all))) ?_
      refine e_done ?_
      refine post_next ?_
      refine code_cond_t rfl ?_
      refine code_region ?_
      refine o_store ty4 rfl rfl rfl rfl rfl (by repeat (first | exact Swap.here | apply Swap.there)) rfl ?_
      refine ops_nil ?_
      refine post_out ?_
      have e1 : unkB gs (top, t) = true := by simp [unkB, h16]; omega
      have e2 : mixB gs (top, t) = false := by simp [mixB, e1]
      exact post_end (rs := []) rfl (List.Perm.refl _) .nil (List.sublist_cons_self _ _) (by rw [hu _ e1, hx _ e2]; simp)
    · have h0 : 0 ≤ t.head := by omega
      have hlt : t.head.toNat < gs.length := by omega
      have hs1 := (hat _ hlt).isSome
      have hl0 : t.head < gs.length := by omega
      first | refine e_float rfl rfl (fun hs_ => PF.mk rfl (v_cmpt rfl rfl rfl (by first | omega | (simp; done) | (simp; omega))) hs_) (by repeat (first | exact Imm.le_refl _ | assumption | refine Imm.le_trans ?_ (by assumption))) (by intro x hx; first | exact hx | exact List.mem_cons_of_mem _ hx | exact List.mem_append_right _ hx | (simp only [List.mem_cons, List.not_mem_nil, or_false] at hx; repeat' (first | (subst hx; simp [cellsL]; done) | rcases hx with hx | hx)) | simp_all) ?_ | refine e_float rfl rfl (fun hs_ => PF.mk rfl (v_cmpf rfl rfl rfl (by first | omega | (simp; done) | (simp; omega))) hs_) (by repeat (first | exact Imm.le_refl _ | assumption | refine Imm.le_trans ?_ (by assumption))) (by intro x hx; first | exact hx | exact List.mem_cons_of_mem _ hx | exact List.mem_append_right _ hx | (simp only [List.mem_cons, List.not_mem_nil, or_false] at hx; repeat' (first | (subst hx; simp [cellsL]; done) | rcases hx with hx | hx)) | simp_all) ?_ | refine e_float rfl rfl (fun hs_ => PF.mk rfl (v_cmp rfl rfl rfl) hs_) (by repeat (first | exact Imm.le_refl _ | assumption | refine Imm.le_trans ?_ (by assumption))) (by intro x hx; first | exact hx | exact List.mem_cons_of_mem _ hx | exact List.mem_append_right _ hx | (simp only [List.mem_cons, List.not_mem_nil, or_false] at hx; repeat' (first | (subst hx; simp [cellsL]; done) | rcases hx with hx | hx)) | simp_all) ?_
      refine e_float rfl rfl (fun hs_ => PF.mk rfl (v_move rfl) hs_) (by repeat (first | exact Imm.le_refl _ | assumption | refine Imm.le_trans ?_ (by assumption))) (by intro x hx; first | exact hx | exact List.mem_cons_of_mem _ hx | exact List.mem_append_right _ hx | (simp only [List.mem_cons, List.not_mem_nil, or_false] at hx; repeat' (first | (subst hx; simp [cellsL]; done) | rcases hx with hx | hx)) | simp_all) ?_
      first | refine e_float rfl rfl (fun hs_ => PF.mkg rfl rfl rfl (v_fieldB 1 Try.underlying24 rfl rfl fz22 rfl) hs_) (by repeat (first | exact Imm.le_refl _ | assumption | refine Imm.le_trans ?_ (by assumption))) (by intro x hx; first | exact hx | exact List.mem_cons_of_mem _ hx | exact List.mem_append_right _ hx | (simp only [List.mem_cons, List.not_mem_nil, or_false] at hx; repeat' (first | (subst hx; simp [cellsL]; done) | rcases hx with hx | hx)) | simp_all) ?_ | refine e_float rfl rfl (fun hs_ => PF.mkg rfl rfl rfl (v_fieldI 1 Try.underlying24 rfl rfl fz22 rfl (by assumption)) hs_) (by repeat (first | exact Imm.le_refl _ | assumption | refine Imm.le_trans ?_ (by assumption))) (by intro x hx; first | exact hx | exact List.mem_cons_of_mem _ hx | exact List.mem_append_right _ hx | (simp only [List.mem_cons, List.not_mem_nil, or_false] at hx; repeat' (first | (subst hx; simp [cellsL]; done) | rcases hx with hx | hx)) | simp_all) ?_ | refine e_float rfl rfl (fun hs_ => PF.mkg rfl rfl rfl (v_field Try.underlying24 rfl fz22 rfl rfl) hs_) (by repeat (first | exact Imm.le_refl _ | assumption | refine Imm.le_trans ?_ (by assumption))) (by intro x hx; first | exact hx | exact List.mem_cons_of_mem _ hx | exact List.mem_append_right _ hx | (simp only [List.mem_cons, List.not_mem_nil, or_false] at hx; repeat' (first | (subst hx; simp [cellsL]; done) | rcases hx with hx | hx)) | simp_all) ?_ | refine e_float rfl rfl (fun hs_ => PF.mks rfl (by intro c hc; cases hc) rfl rfl (by simp [undef]) hs_) (by repeat (first | exact Imm.le_refl _ | assumption | refine Imm.le_trans ?_ (by assumption))) (by intro x hx; first | exact hx | exact List.mem_cons_of_mem _ hx | exact List.mem_append_right _ hx | (simp only [List.mem_cons, List.not_mem_nil, or_false] at hx; repeat' (first | (subst hx; simp [cellsL]; done) | rcases hx with hx | hx)) | simp_all) ?_
      first | refine e_float rfl rfl (fun hs_ => PF.mkg rfl rfl rfl (v_load ty22 rfl (by repeat (first | exact Has.here | apply Has.there)) rfl) hs_) (by repeat (first | exact Imm.le_refl _ | assumption | refine Imm.le_trans ?_ (by assumption))) (by intro x hx; first | exact hx | exact List.mem_cons_of_mem _ hx | exact List.mem_append_right _ hx | (simp only [List.mem_cons, List.not_mem_nil, or_false] at hx; repeat' (first | (subst hx; simp [cellsL]; done) | rcases hx with hx | hx)) | simp_all) ?_ | refine e_float rfl rfl (fun hs_ => PF.mks rfl (by intro c hc; cases hc) rfl rfl (by simp [undef]) hs_) (by repeat (first | exact Imm.le_refl _ | assumption | refine Imm.le_trans ?_ (by assumption))) (by intro x hx; first | exact hx | exact List.mem_cons_of_mem _ hx | exact List.mem_append_right _ hx | (simp only [List.mem_cons, List.not_mem_nil, or_false] at hx; repeat' (first | (subst hx; simp [cellsL]; done) | rcases hx with hx | hx)) | simp_all) ?_
      first | refine e_float rfl rfl (fun hs_ => PF.mkg rfl rfl rfl (v_len Try.underlying22 rfl) hs_) (by repeat (first | exact Imm.le_refl _ | assumption | refine Imm.le_trans ?_ (by assumption))) (by intro x hx; first | exact hx | exact List.mem_cons_of_mem _ hx | exact List.mem_append_right _ hx | (simp only [List.mem_cons, List.not_mem_nil, or_false] at hx; repeat' (first | (subst hx; simp [cellsL]; done) | rcases hx with hx | hx)) | simp_all) ?_ | refine e_float rfl rfl (fun hs_ => PF.mks rfl (by intro c hc; cases hc) rfl rfl (by simp [undef]) hs_) (by repeat (first | exact Imm.le_refl _ | assumption | refine Imm.le_trans ?_ (by assumption))) (by intro x hx; first | exact hx | exact List.mem_cons_of_mem _ hx | exact List.mem_append_right _ hx | (simp only [List.mem_cons, List.not_mem_nil, or_false] at hx; repeat' (first | (subst hx; simp [cellsL]; done) | rcases hx with hx | hx)) | simp_all) ?_
      first | refine e_float rfl rfl (fun hs_ => PF.mkg rfl rfl rfl (v_load ty43 rfl (by repeat (first | exact Has.here | apply Has.there)) rfl) hs_) (by repeat (first | exact Imm.le_refl _ | assumption | refine Imm.le_trans ?_ (by assumption))) (by intro x hx; first | exact hx | exact List.mem_cons_of_mem _ hx | exact List.mem_append_right _ hx | (simp only [List.mem_cons, List.not_mem_nil, or_false] at hx; repeat' (first | (subst hx; simp [cellsL]; done) | rcases hx with hx | hx)) | simp_all) ?_ | refine e_float rfl rfl (fun hs_ => PF.mks rfl (by intro c hc; cases hc) rfl rfl (by simp [undef]) hs_) (by repeat (first | exact Imm.le_refl _ | assumption | refine Imm.le_trans ?_ (by assumption))) (by intro x hx; first | exact hx | exact List.mem_cons_of_mem _ hx | exact List.mem_append_right _ hx | (simp only [List.mem_cons, List.not_mem_nil, or_false] at hx; repeat' (first | (subst hx; simp [cellsL]; done) | rcases hx with hx | hx)) | simp_all) ?_
      first | refine e_float rfl rfl (fun hs_ => PF.mkg rfl rfl rfl (v_fieldB 0 Try.underlying24 rfl rfl fz3 rfl) hs_) (by repeat (first | exact Imm.le_refl _ | assumption | refine Imm.le_trans ?_ (by assumption))) (by intro x hx; first | exact hx | exact List.mem_cons_of_mem _ hx | exact List.mem_append_right _ hx | (simp only [List.mem_cons, List.not_mem_nil, or_false] at hx; repeat' (first | (subst hx; simp [cellsL]; done) | rcases hx with hx | hx)) | simp_all) ?_ | refine e_float rfl rfl (fun hs_ => PF.mkg rfl rfl rfl (v_fieldI 0 Try.underlying24 rfl rfl fz3 rfl (by assumption)) hs_) (by repeat (first | exact Imm.le_refl _ | assumption | refine Imm.le_trans ?_ (by assumption))) (by intro x hx; first | exact hx | exact List.mem_cons_of_mem _ hx | exact List.mem_append_right _ hx | (simp only [List.mem_cons, List.not_mem_nil, or_false] at hx; repeat' (first | (subst hx; simp [cellsL]; done) | rcases hx with hx | hx)) | simp_all) ?_ | refine e_float rfl rfl (fun hs_ => PF.mkg rfl rfl rfl (v_field Try.underlying24 rfl fz3 rfl rfl) hs_) (by repeat (first | exact Imm.le_refl _ | assumption | refine Imm.le_trans ?_ (by assumption))) (by intro x hx; first | exact hx | exact List.mem_cons_of_mem _ hx | exact List.mem_append_right _ hx | (simp only [List.mem_cons, List.not_mem_nil, or_false] at hx; repeat' (first | (subst hx; simp [cellsL]; done) | rcases hx with hx | hx)) | simp_all) ?_ | refine e_float rfl rfl (fun hs_ => PF.mks rfl (by intro c hc; cases hc) rfl rfl (by simp [undef]) hs_) (by repeat (first | exact Imm.le_refl _ | assumption | refine Imm.le_trans ?_ (by assumption))) (by intro x hx; first | exact hx | exact List.mem_cons_of_mem _ hx | exact List.mem_append_right _ hx | (simp only [List.mem_cons, List.not_mem_nil, or_false] at hx; repeat' (first | (subst hx; simp [cellsL]; done) | rcases hx with hx | hx)) | simp_all) ?_
      first | refine e_float rfl rfl (fun hs_ => PF.mkg rfl rfl rfl (v_load ty3 rfl (by repeat (first | exact Has.here | apply Has.there)) rfl) hs_) (by repeat (first | exact Imm.le_refl _ | assumption | refine Imm.le_trans ?_ (by assumption))) (by intro x hx; first | exact hx | exact List.mem_cons_of_mem _ hx | exact List.mem_append_right _ hx | (simp only [List.mem_cons, List.not_mem_nil, or_false] at hx; repeat' (first | (subst hx; simp [cellsL]; done) | rcases hx with hx | hx)) | simp_all) ?_ | refine e_float rfl rfl (fun hs_ => PF.mks rfl (by intro c hc; cases hc) rfl rfl (by simp [undef]) hs_) (by repeat (first | exact Imm.le_refl _ | assumption | refine Imm.le_trans ?_ (by assumption))) (by intro x hx; first | exact hx | exact List.mem_cons_of_mem _ hx | exact List.mem_append_right _ hx | (simp only [List.mem_cons, List.not_mem_nil, or_false] at hx; repeat' (first | (subst hx; simp [cellsL]; done) | rcases hx with hx | hx)) | simp_all) ?_
      first | refine e_float rfl rfl (fun hs_ => PF.mkg rfl rfl rfl (v_index Try.underlying43 sz49 rfl rfl (by omega) (by assumption)) hs_) (by repeat (first | exact Imm.le_refl _ | assumption | refine Imm.le_trans ?_ (by assumption))) (by intro x hx; first | exact hx | exact List.mem_cons_of_mem _ hx | exact List.mem_append_right _ hx | (simp only [List.mem_cons, List.not_mem_nil, or_false] at hx; repeat' (first | (subst hx; simp [cellsL]; done) | rcases hx with hx | hx)) | simp_all) ?_ | refine e_float rfl rfl (fun hs_ => PF.mkg rfl rfl rfl (v_indexI Try.underlying43 sz49 rfl rfl (by first | omega | (simp; done) | (simp; omega)) (by first | omega | (simp; done) | (simp; omega)) (by assumption)) hs_) (by repeat (first | exact Imm.le_refl _ | assumption | refine Imm.le_trans ?_ (by assumption))) (by intro x hx; first | exact hx | exact List.mem_cons_of_mem _ hx | exact List.mem_append_right _ hx | (simp only [List.mem_cons, List.not_mem_nil, or_false] at hx; repeat' (first | (subst hx; simp [cellsL]; done) | rcases hx with hx | hx)) | simp_all) ?_ | refine e_float rfl rfl (fun hs_ => PF.mks rfl (by intro c hc; cases hc) rfl rfl (by simp [undef]) hs_) (by repeat (first | exact Imm.le_refl _ | assumption | refine Imm.le_trans ?_ (by assumption))) (by intro x hx; first | exact hx | exact List.mem_cons_of_mem _ hx | exact List.mem_append_right _ hx | (simp only [List.mem_cons, List.not_mem_nil, or_false] at hx; repeat' (first | (subst hx; simp [cellsL]; done) | rcases hx with hx | hx)) | simp_all) ?_
      first | refine e_float rfl rfl (fun hs_ => PF.mkg rfl rfl rfl (v_fieldB 1 Try.underlying49 rfl rfl fz3 rfl) hs_) (by repeat (first | exact Imm.le_refl _ | assumption | refine Imm.le_trans ?_ (by assumption))) (by intro x hx; first | exact hx | exact List.mem_cons_of_mem _ hx | exact List.mem_append_right _ hx | (simp only [List.mem_cons, List.not_mem_nil, or_false] at hx; repeat' (first | (subst hx; simp [cellsL]; done) | rcases hx with hx | hx)) | simp_all) ?_ | refine e_float rfl rfl (fun hs_ => PF.mkg rfl rfl rfl (v_fieldI 1 Try.underlying49 rfl rfl fz3 rfl (by assumption)) hs_) (by repeat (first | exact Imm.le_refl _ | assumption | refine Imm.le_trans ?_ (by assumption))) (by intro x hx; first | exact hx | exact List.mem_cons_of_mem _ hx | exact List.mem_append_right _ hx | (simp only [List.mem_cons, List.not_mem_nil, or_false] at hx; repeat' (first | (subst hx; simp [cellsL]; done) | rcases hx with hx | hx)) | simp_all) ?_ | refine e_float rfl rfl (fun hs_ => PF.mkg rfl rfl rfl (v_field Try.underlying49 rfl fz3 rfl rfl) hs_) (by repeat (first | exact Imm.le_refl _ | assumption | refine Imm.le_trans ?_ (by assumption))) (by intro x hx; first | exact hx | exact List.mem_cons_of_mem _ hx | exact List.mem_append_right _ hx | (simp only [List.mem_cons, List.not_mem_nil, or_false] at hx; repeat' (first | (subst hx; simp [cellsL]; done) | rcases hx with hx | hx)) | simp_all) ?_ | refine e_float rfl rfl (fun hs_ => PF.mks rfl (by intro c hc; cases hc) rfl rfl (by simp [undef]) hs_) (by repeat (first | exact Imm.le_refl _ | assumption | refine Imm.le_trans ?_ (by assumption))) (by intro x hx; first | exact hx | exact List.mem_cons_of_mem _ hx | exact List.mem_append_right _ hx | (simp only [List.mem_cons, List.not_mem_nil, or_false] at hx; repeat' (first | (subst hx; simp [cellsL]; done) | rcases hx with hx | hx)) | simp_all) ?_
      first | refine e_float rfl rfl (fun hs_ => PF.mkg rfl rfl rfl (v_loadI0 ty3 (hat _ hlt) rfl rfl rfl) hs_) (by repeat (first | exact Imm.le_refl _ | assumption | refine Imm.le_trans ?_ (by assumption))) (by intro x hx; first | exact hx | exact List.mem_cons_of_mem _ hx | exact List.mem_append_right _ hx | (simp only [List.mem_cons, List.not_mem_nil, or_false] at hx; repeat' (first | (subst hx; simp [cellsL]; done) | rcases hx with hx | hx)) | simp_all) ?_ | refine e_float rfl rfl (fun hs_ => PF.mkg rfl rfl rfl (v_loadI ty3 (hat _ hlt) rfl rfl rfl) hs_) (by repeat (first | exact Imm.le_refl _ | assumption | refine Imm.le_trans ?_ (by assumption))) (by intro x hx; first | exact hx | exact List.mem_cons_of_mem _ hx | exact List.mem_append_right _ hx | (simp only [List.mem_cons, List.not_mem_nil, or_false] at hx; repeat' (first | (subst hx; simp [cellsL]; done) | rcases hx with hx | hx)) | simp_all) ?_ | refine e_float rfl rfl (fun hs_ => PF.mks rfl (by intro c hc; cases hc) rfl rfl (by simp [undef]) hs_) (by repeat (first | exact Imm.le_refl _ | assumption | refine Imm.le_trans ?_ (by assumption))) (by intro x hx; first | exact hx | exact List.mem_cons_of_mem _ hx | exact List.mem_append_right _ hx | (simp only [List.mem_cons, List.not_mem_nil, or_false] at hx; repeat' (first | (subst hx; simp [cellsL]; done) | rcases hx with hx | hx)) | simp_all) ?_
      by_cases h27 : (t.args.length : Int) ≠ (gs[t.head.toNat]'hlt).ar
      · first | refine e_float rfl rfl (fun hs_ => PF.mkg rfl rfl rfl (v_cmpt rfl rfl rfl (by first | omega | (simp; done) | (simp; omega))) hs_) (by repeat (first | exact Imm.le_refl _ | assumption | refine Imm.le_trans ?_ (by assumption))) (by intro x hx; first | exact hx | exact List.mem_cons_of_mem _ hx | exact List.mem_append_right _ hx | (simp only [List.mem_cons, List.not_mem_nil, or_false] at hx; repeat' (first | (subst hx; simp [cellsL]; done) | rcases hx with hx | hx)) | simp_all) ?_ | refine e_float rfl rfl (fun hs_ => PF.mkg rfl rfl rfl (v_cmpf rfl rfl rfl (by first | omega | (simp; done) | (simp; omega))) hs_) (by repeat (first | exact Imm.le_refl _ | assumption | refine Imm.le_trans ?_ (by assumption))) (by intro x hx; first | exact hx | exact List.mem_cons_of_mem _ hx | exact List.mem_append_right _ hx | (simp only [List.mem_cons, List.not_mem_nil, or_false] at hx; repeat' (first | (subst hx; simp [cellsL]; done) | rcases hx with hx | hx)) | simp_all) ?_ | refine e_float rfl rfl (fun hs_ => PF.mkg rfl rfl rfl (v_cmp rfl rfl rfl) hs_) (by repeat (first | exact Imm.le_refl _ | assumption | refine Imm.le_trans ?_ (by assumption))) (by intro x hx; first | exact hx | exact List.mem_cons_of_mem _ hx | exact List.mem_append_right _ hx | (simp only [List.mem_cons, List.not_mem_nil, or_false] at hx; repeat' (first | (subst hx; simp [cellsL]; done) | rcases hx with hx | hx)) | simp_all) ?_ | refine e_float rfl rfl (fun hs_ => PF.mks rfl (by intro c hc; cases hc) rfl rfl (by simp [undef]) hs_) (by repeat (first | exact Imm.le_refl _ | assumption | refine Imm.le_trans ?_ (by assumption))) (by intro x hx; first | exact hx | exact List.mem_cons_of_mem _ hx | exact List.mem_append_right _ hx | (simp only [List.mem_cons, List.not_mem_nil, or_false] at hx; repeat' (first | (subst hx; simp [cellsL]; done) | rcases hx with hx | hx)) | simp_all) ?_
        first | refine e_float rfl rfl (fun hs_ => PF.mk rfl (v_pickt rfl rfl) hs_) (by repeat (first | exact Imm.le_refl _ | assumption | refine Imm.le_trans ?_ (by assumption))) (by intro x hx; first | exact hx | exact List.mem_cons_of_mem _ hx | exact List.mem_append_right _ hx | (simp only [List.mem_cons, List.not_mem_nil, or_false] at hx; repeat' (first | (subst hx; simp [cellsL]; done) | rcases hx with hx | hx)) | simp_all) ?_ | refine e_float rfl rfl (fun hs_ => PF.mk rfl (v_pickf rfl rfl) hs_) (by repeat (first | exact Imm.le_refl _ | assumption | refine Imm.le_trans ?_ (by assumption))) (by intro x hx; first | exact hx | exact List.mem_cons_of_mem _ hx | exact List.mem_append_right _ hx | (simp only [List.mem_cons, List.not_mem_nil, or_false] at hx; repeat' (first | (subst hx; simp [cellsL]; done) | rcases hx with hx | hx)) | simp_all) ?_ | refine e_float rfl rfl (fun hs_ => PF.mk rfl (v_pickb rfl rfl rfl) hs_) (by repeat (first | exact Imm.le_refl _ | assumption | refine Imm.le_trans ?_ (by assumption))) (by intro x hx; first | exact hx | exact List.mem_cons_of_mem _ hx | exact List.mem_append_right _ hx | (simp only [List.mem_cons, List.not_mem_nil, or_false] at hx; repeat' (first | (subst hx; simp [cellsL]; done) | rcases hx with hx | hx)) | simp_all) ?_
        refine e_eff rfl (by intro cs b hc; cases hc) (by intro c hc; cases hc) ?_
        refine op_v (v_assign rfl) rfl ?_
        refine ops_nil ?_
        refine e_next rfl (side_all (by repeat (first | exact Imm.le_refl _ | assumption | refine Imm.le_trans ?_ (by assumption))) (fun _ => (by intro x hx; first | exact hx | exact List.mem_cons_of_mem _ hx | exact List.mem_append_right _ hx | (simp only [List.mem_cons, List.not_mem_nil, or_false] at hx; repeat' (first | (subst hx; simp [cellsL]; done) | rcases hx with hx | hx)) | simp_all))) ?_
        refine e_done ?_
        refine post_next ?_
        refine code_cond_t rfl ?_
        refine code_region ?_
        refine o_store ty4 rfl rfl rfl rfl rfl (by repeat (first | exact Swap.here | apply Swap.there)) rfl ?_
        refine ops_nil ?_
        refine post_out ?_
        have e1 : unkB gs (top, t) = true := by simp [unkB, arG_at h0 hl0, h0, h27]
        have e2 : mixB gs (top, t) = false := by simp [mixB, e1]
        exact post_end (rs := []) rfl (List.Perm.refl _) .nil (List.sublist_cons_self _ _) (by rw [hu _ e1, hx _ e2]; simp)
      · first | refine e_float rfl rfl (fun hs_ => PF.mkg rfl rfl rfl (v_cmpt rfl rfl rfl (by first | omega | (simp; done) | (simp; omega))) hs_) (by repeat (first | exact Imm.le_refl _ | assumption | refine Imm.le_trans ?_ (by assumption))) (by intro x hx; first | exact hx | exact List.mem_cons_of_mem _ hx | exact List.mem_append_right _ hx | (simp only [List.mem_cons, List.not_mem_nil, or_false] at hx; repeat' (first | (subst hx; simp [cellsL]; done) | rcases hx with hx | hx)) | simp_all) ?_ | refine e_float rfl rfl (fun hs_ => PF.mkg rfl rfl rfl (v_cmpf rfl rfl rfl (by first | omega | (simp; done) | (simp; omega))) hs_) (by repeat (first | exact Imm.le_refl _ | assumption | refine Imm.le_trans ?_ (by assumption))) (by intro x hx; first | exact hx | exact List.mem_cons_of_mem _ hx | exact List.mem_append_right _ hx | (simp only [List.mem_cons, List.not_mem_nil, or_false] at hx; repeat' (first | (subst hx; simp [cellsL]; done) | rcases hx with hx | hx)) | simp_all) ?_ | refine e_float rfl rfl (fun hs_ => PF.mkg rfl rfl rfl (v_cmp rfl rfl rfl) hs_) (by repeat (first | exact Imm.le_refl _ | assumption | refine Imm.le_trans ?_ (by assumption))) (by intro x hx; first | exact hx | exact List.mem_cons_of_mem _ hx | exact List.mem_append_right _ hx | (simp only [List.mem_cons, List.not_mem_nil, or_false] at hx; repeat' (first | (subst hx; simp [cellsL]; done) | rcases hx with hx | hx)) | simp_all) ?_ | refine e_float rfl rfl (fun hs_ => PF.mks rfl (by intro c hc; cases hc) rfl rfl (by simp [undef]) hs_) (by repeat (first | exact Imm.le_refl _ | assumption | refine Imm.le_trans ?_ (by assumption))) (by intro x hx; first | exact hx | exact List.mem_cons_of_mem _ hx | exact List.mem_append_right _ hx | (simp only [List.mem_cons, List.not_mem_nil, or_false] at hx; repeat' (first | (subst hx; simp [cellsL]; done) | rcases hx with hx | hx)) | simp_all) ?_
        first | refine e_float rfl rfl (fun hs_ => PF.mk rfl (v_pickt rfl rfl) hs_) (by repeat (first | exact Imm.le_refl _ | assumption | refine Imm.le_trans ?_ (by assumption))) (by intro x hx; first | exact hx | exact List.mem_cons_of_mem _ hx | exact List.mem_append_right _ hx | (simp only [List.mem_cons, List.not_mem_nil, or_false] at hx; repeat' (first | (subst hx; simp [cellsL]; done) | rcases hx with hx | hx)) | simp_all) ?_ | refine e_float rfl rfl (fun hs_ => PF.mk rfl (v_pickf rfl rfl) hs_) (by repeat (first | exact Imm.le_refl _ | assumption | refine Imm.le_trans ?_ (by assumption))) (by intro x hx; first | exact hx | exact List.mem_cons_of_mem _ hx | exact List.mem_append_right _ hx | (simp only [List.mem_cons, List.not_mem_nil, or_false] at hx; repeat' (first | (subst hx; simp [cellsL]; done) | rcases hx with hx | hx)) | simp_all) ?_ | refine e_float rfl rfl (fun hs_ => PF.mk rfl (v_pickb rfl rfl rfl) hs_) (by repeat (first | exact Imm.le_refl _ | assumption | refine Imm.le_trans ?_ (by assumption))) (by intro x hx; first | exact hx | exact List.mem_cons_of_mem _ hx | exact List.mem_append_right _ hx | (simp only [List.mem_cons, List.not_mem_nil, or_false] at hx; repeat' (first | (subst hx; simp [cellsL]; done) | rcases hx with hx | hx)) | simp_all) ?_
        refine e_eff rfl (by intro cs b hc; cases hc) (by intro c hc; cases hc) ?_
        refine op_v (v_assign rfl) rfl ?_
        refine ops_nil ?_
        refine e_next rfl (side_all (by repeat (first | exact Imm.le_refl _ | assumption | refine Imm.le_trans ?_ (by assumption))) (fun _ => (by intro x hx; first | exact hx | exact List.mem_cons_of_mem _ hx | exact List.mem_append_right _ hx | (simp only [List.mem_cons, List.not_mem_nil, or_false] at hx; repeat' (first | (subst hx; simp [cellsL]; done) | rcases hx with hx | hx)) | simp_all))) ?_
        refine e_done ?_
        refine post_next ?_
        refine code_cond_f rfl ?_
        refine code_seq ?_
        refine code_region ?_
        refine op_v (v_load ty43 rfl (by repeat (first | exact Has.here | apply Has.there)) rfl) rfl ?_
        first | refine op_v (v_fieldB 0 Try.underlying24 rfl rfl fz3 rfl) rfl ?_ | refine op_v (v_fieldI 0 Try.underlying24 rfl rfl fz3 rfl (by assumption)) rfl ?_ | refine op_v (v_field Try.underlying24 rfl fz3 rfl rfl) rfl ?_
        refine op_v (v_load ty3 rfl (by repeat (first | exact Has.here | apply Has.there)) rfl) rfl ?_
        first | refine op_v (v_index Try.underlying43 sz49 rfl rfl (by omega) (by assumption)) rfl ?_ | refine op_v (v_indexI Try.underlying43 sz49 rfl rfl (by first | omega | (simp; done) | (simp; omega)) (by first | omega | (simp; done) | (simp; omega)) (by assumption)) rfl ?_
        first | refine op_v (v_fieldB 3 Try.underlying49 rfl rfl fz4 rfl) rfl ?_ | refine op_v (v_fieldI 3 Try.underlying49 rfl rfl fz4 rfl (by assumption)) rfl ?_ | refine op_v (v_field Try.underlying49 rfl fz4 rfl rfl) rfl ?_
        first | refine op_v (v_loadI0 ty4 (hat _ hlt) rfl rfl rfl) rfl ?_ | refine op_v (v_loadI ty4 (hat _ hlt) rfl rfl rfl) rfl ?_
        skip
        by_cases h36 : (gs[t.head.toNat]'hlt).tr = true
        · rw [h36]
          refine op_v (v_move rfl) rfl ?_
          first
            | (refine op_want rfl rfl ?_
               refine op_v (v_move rfl) rfl ?_)
            | (refine op_skip rfl rfl (by simp [undef]) rfl ?_)
          by_cases h38 : top = true
          · subst h38
            first
              | (refine op_want rfl rfl ?_
                 refine op_v (v_not rfl) rfl ?_)
              | (refine op_skip rfl rfl (by simp [undef]) rfl ?_)
            first | refine op_v (v_pickt rfl rfl) rfl ?_ | refine op_v (v_pickf rfl rfl) rfl ?_ | refine op_v (v_pickb rfl rfl rfl) rfl ?_
            refine op_v (v_assign rfl) rfl ?_
            refine ops_nil ?_
            refine post_next ?_
            refine code_cond_f rfl ?_
            refine code_skip ?_
            refine post_out ?_
            have e1 : unkB gs (true, t) = false := by simp [unkB, arG_at h0 hl0]; omega
            have e2 : mixB gs (true, t) = false := by simp [mixB, e1]
            exact post_end (rs := []) rfl (List.Perm.refl _) .nil (List.sublist_cons_self _ _) (by rw [hu _ e1, hx _ e2]; simp)
          · have h38' : top = false := by simpa using h38
            subst h38'
            first
              | (refine op_want rfl rfl ?_
                 refine op_v (v_not rfl) rfl ?_)
              | (refine op_skip rfl rfl (by simp [undef]) rfl ?_)
            first | refine op_v (v_pickt rfl rfl) rfl ?_ | refine op_v (v_pickf rfl rfl) rfl ?_ | refine op_v (v_pickb rfl rfl rfl) rfl ?_
            refine op_v (v_assign rfl) rfl ?_
            refine ops_nil ?_
            refine post_next ?_
            refine code_cond_t rfl ?_
            refine code_region ?_
            refine o_store ty4 rfl rfl rfl rfl rfl (by repeat (first | exact Swap.here | apply Swap.there)) rfl ?_
            refine ops_nil ?_
            refine post_out ?_
            have e1 : unkB gs (false, t) = false := by simp [unkB, arG_at h0 hl0]; omega
            have e2 : mixB gs (false, t) = true := by simp [mixB, e1, trG_at h0 hl0, h36, h0]
            exact post_end (rs := []) rfl (List.Perm.refl _) .nil (List.sublist_cons_self _ _) (by rw [hu _ e1, hx _ e2]; simp)
        · have h36' : (gs[t.head.toNat]'hlt).tr = false := by simpa using h36
          rw [h36']
          refine op_v (v_move rfl) rfl ?_
          first
            | (refine op_want rfl rfl ?_
               refine op_v (v_move rfl) rfl ?_)
            | (refine op_skip rfl rfl (by simp [undef]) rfl ?_)
          first
            | (refine op_want rfl rfl ?_
               refine op_v (v_not rfl) rfl ?_)
            | (refine op_skip rfl rfl (by simp [undef]) rfl ?_)
          first | refine op_v (v_pickt rfl rfl) rfl ?_ | refine op_v (v_pickf rfl rfl) rfl ?_ | refine op_v (v_pickb rfl rfl rfl) rfl ?_
          refine op_v (v_assign rfl) rfl ?_
          refine ops_nil ?_
          refine post_next ?_
          refine code_cond_f rfl ?_
          refine code_skip ?_
          refine post_out ?_
          have e1 : unkB gs (top, t) = false := by simp [unkB, arG_at h0 hl0]; omega
          have e2 : mixB gs (top, t) = false := by simp [mixB, e1, trG_at h0 hl0, h36']
          exact post_end (rs := []) rfl (List.Perm.refl _) .nil (List.sublist_cons_self _ _) (by rw [hu _ e1, hx _ e2]; simp)

def unkG (gs : List Sy) (t : T) : Bool := (visT true t).any (unkB gs)
def mixG (gs : List Sy) (t : T) : Bool := (visT true t).any (mixB gs)
def termG (gs : List Sy) (t : T) : Int := if chkG gs ≠ 0 then chkG gs else if chkT t ≠ 0 then chkT t else if unkG gs t = true then 1 else if mixG gs t = true then 10 else 0
theorem GTerm_does {I : Imm} {vg v : Value} {gs : List Sy} {t : T} (hg : RepG I vg gs) (hv : RepT I v t) (hbig : t.size ≤ 1000000000) :
    Does Try.prog 63 [vg, v] I [] (fun v _ δ' => v = .int .i64 (termG gs t) ∧ δ' = []) := by
  obtain ⟨ad, c, rfl⟩ := hg.shape
  obtain ⟨a0, c0, rfl, hr0⟩ := hv.shape
  refine Does.intro Try.func63 rfl Try.ntmps63 rfl fun w0 => ?_
  refine code_seq ?_
  refine code_region ?_
  refine o_box rfl rfl rfl (fun b2 => ?_)
  refine o_box rfl rfl rfl (fun b3 => ?_)
  refine op_v (v_assign rfl) rfl ?_
  refine ops_nil ?_
  refine post_next ?_
  refine code_seq ?_
  refine code_seq ?_
  refine code_region ?_
  refine op_v (v_load ty43 rfl (by repeat (first | exact Has.here | apply Has.there)) rfl) rfl ?_
  refine op_call pl35 rfl rfl ((GCheck_does hg)) Parts.none ?_
  rintro v10 I10 _ hI10 ⟨rfl, rfl⟩
  refine op_v (v_assign rfl) rfl ?_
  refine ops_nil ?_
  refine post_next ?_
  refine code_seq ?_
  refine code_region ?_
  refine op_v (v_move rfl) rfl ?_
  by_cases h12 : chkG gs ≠ 0
  · first | refine op_v (v_cmpt rfl rfl rfl (by first | omega | (simp; done) | (simp; omega))) rfl ?_ | refine op_v (v_cmpf rfl rfl rfl (by first | omega | (simp; done) | (simp; omega))) rfl ?_ | refine op_v (v_cmp rfl rfl rfl) rfl ?_
    refine ops_nil ?_
    refine post_next ?_
    refine code_cond_t rfl ?_
    refine code_seq ?_
    refine code_region ?_
    refine op_v (v_move rfl) rfl ?_
    refine op_v (v_assign rfl) rfl ?_
    refine ops_nil ?_
    refine post_next ?_
    refine code_ret ?_
    refine post_ret_then ?_
    refine post_ret (rs := [.tmp 4]) rfl (List.Perm.refl _) (.cons (.tmp rfl) .nil) (List.nil_sublist _) ?_
    exact ⟨by simp [outV, termG, h12], rfl⟩
  · first | refine op_v (v_cmpt rfl rfl rfl (by first | omega | (simp; done) | (simp; omega))) rfl ?_ | refine op_v (v_cmpf rfl rfl rfl (by first | omega | (simp; done) | (simp; omega))) rfl ?_ | refine op_v (v_cmp rfl rfl rfl) rfl ?_
    refine ops_nil ?_
    refine post_next ?_
    refine code_cond_f rfl ?_
    refine code_skip ?_
    refine post_next ?_
    refine code_seq ?_
    refine code_seq ?_
    refine code_region ?_
    refine op_v (v_load ty24 rfl (by repeat (first | exact Has.here | apply Has.there)) rfl) rfl ?_
    refine op_call pl43 rfl rfl ((TCheck_does (hv.mono (by repeat (first | exact Imm.le_refl _ | assumption | refine Imm.le_trans ?_ (by assumption)))) hbig)) Parts.none ?_
    rintro v15 I15 _ hI15 ⟨rfl, rfl⟩
    refine op_v (v_assign rfl) rfl ?_
    refine ops_nil ?_
    refine post_next ?_
    refine code_seq ?_
    refine code_region ?_
    refine op_v (v_move rfl) rfl ?_
    by_cases h17 : chkT t ≠ 0
    · first | refine op_v (v_cmpt rfl rfl rfl (by first | omega | (simp; done) | (simp; omega))) rfl ?_ | refine op_v (v_cmpf rfl rfl rfl (by first | omega | (simp; done) | (simp; omega))) rfl ?_ | refine op_v (v_cmp rfl rfl rfl) rfl ?_
      refine ops_nil ?_
      refine post_next ?_
      refine code_cond_t rfl ?_
      refine code_seq ?_
      refine code_region ?_
      refine op_v (v_move rfl) rfl ?_
      refine op_v (v_assign rfl) rfl ?_
      refine ops_nil ?_
      refine post_next ?_
      refine code_ret ?_
      refine post_ret_then ?_
      refine post_ret (rs := [.tmp 4]) rfl (List.Perm.refl _) (.cons (.tmp rfl) .nil) (List.nil_sublist _) ?_
      exact ⟨by simp only [outV, termG]; rw [if_neg h12, if_pos h17], rfl⟩
    · first | refine op_v (v_cmpt rfl rfl rfl (by first | omega | (simp; done) | (simp; omega))) rfl ?_ | refine op_v (v_cmpf rfl rfl rfl (by first | omega | (simp; done) | (simp; omega))) rfl ?_ | refine op_v (v_cmp rfl rfl rfl) rfl ?_
      refine ops_nil ?_
      refine post_next ?_
      refine code_cond_f rfl ?_
      refine code_skip ?_
      refine post_next ?_
      refine code_seq ?_
      refine code_region ?_
      refine o_alloc z4 rfl rfl (fun b7 => ?_)
      refine o_alloc z4 rfl rfl (fun b8 => ?_)
      refine o_store ty4 rfl rfl rfl rfl rfl (by repeat (first | exact Swap.here | apply Swap.there)) rfl ?_
      refine o_store ty4 rfl rfl rfl rfl rfl (by repeat (first | exact Swap.here | apply Swap.there)) rfl ?_
      refine ops_nil ?_
      refine post_next ?_
      refine code_seq ?_
      refine code_region ?_
      refine op_v (v_load ty24 rfl (by repeat (first | exact Has.here | apply Has.there)) rfl) rfl ?_
      refine op_v (v_makeFunc rfl rfl) rfl ?_
      refine op_call pl78 rfl rfl ((gwalk_does (fun l I' δ' => RepG I' (.slice ad gs.length c) gs ∧ δ' = SeeG gs b8 b7 b3 b2 [.int .i64 t.head, .slice a0 t.args.length c0] [.slice ad gs.length c] l) (fun l _ _ δ hle h => ⟨h.1.mono hle, h.2⟩) (fun pre x J v δ hp hxv hd => by obtain ⟨hd1, hd⟩ := hd; subst hd; exact FDoes.mono (FDoes.ofFunc (caps := [_, _, _]) pl79 (Term1_does hxv hd1)) (fun _ _ _ hle h => ⟨hd1.mono hle, h⟩)) t.size t (Nat.le_refl _) true [] _ _ _ (by simpa using hbig) (hv.mono (by repeat (first | exact Imm.le_refl _ | assumption | refine Imm.le_trans ?_ (by assumption)))) ⟨hg.mono (by repeat (first | exact Imm.le_refl _ | assumption | refine Imm.le_trans ?_ (by assumption))), rfl⟩)) Parts.all ?_
      rintro v21 I21 _ hI21 ⟨_, rfl⟩
      rw [List.append_nil, List.nil_append]
      unfold SeeG
      refine ops_nil ?_
      refine post_next ?_
      refine code_seq ?_
      refine code_block ?_
      refine code_seq ?_
      refine code_region ?_
      refine op_v (v_load ty4 rfl (by repeat (first | exact Has.here | apply Has.there)) rfl) rfl ?_
      by_cases h22 : unkG gs t = true
      · rw [show (visT true t).any (unkB gs) = true from h22]
        refine op_v (v_assign rfl) rfl ?_
        refine ops_nil ?_
        refine post_next ?_
        refine code_cond_t rfl ?_
        refine code_seq ?_
        refine code_region ?_
        refine op_v (v_assign rfl) rfl ?_
        refine ops_nil ?_
        refine post_next ?_
        refine code_ret ?_
        refine post_ret_block ?_
        refine post_ret_then ?_
        refine post_ret (rs := [.tmp 4]) rfl (List.Perm.refl _) (.cons (.tmp rfl) .nil) (List.nil_sublist _) ?_
        exact ⟨by simp only [outV, termG]; rw [if_neg h12, if_neg h17, if_pos h22], rfl⟩
      · rw [show (visT true t).any (unkB gs) = false by simpa [unkG] using h22]
        refine op_v (v_assign rfl) rfl ?_
        refine ops_nil ?_
        refine post_next ?_
        refine code_cond_f rfl ?_
        refine code_seq ?_
        refine code_region ?_
        refine op_v (v_load ty4 rfl (by repeat (first | exact Has.here | apply Has.there)) rfl) rfl ?_
        by_cases h24 : mixG gs t = true
        · rw [show (visT true t).any (mixB gs) = true from h24]
          refine op_v (v_assign rfl) rfl ?_
          refine ops_nil ?_
          refine post_next ?_
          refine code_cond_t rfl ?_
          refine code_seq ?_
          refine code_region ?_
          refine op_v (v_assign rfl) rfl ?_
          refine ops_nil ?_
          refine post_next ?_
          refine code_ret ?_
          refine post_ret_block ?_
          refine post_ret_then ?_
          refine post_ret (rs := [.tmp 4]) rfl (List.Perm.refl _) (.cons (.tmp rfl) .nil) (List.nil_sublist _) ?_
          exact ⟨by simp only [outV, termG]; rw [if_neg h12, if_neg h17, if_neg h22, if_pos h24], rfl⟩
        · rw [show (visT true t).any (mixB gs) = false by simpa [mixG] using h24]
          refine op_v (v_assign rfl) rfl ?_
          refine ops_nil ?_
          refine post_next ?_
          refine code_cond_f rfl ?_
          refine code_skip ?_
          refine post_out ?_
          refine post_next ?_
          refine code_seq ?_
          refine code_region ?_
          refine op_v (v_assign rfl) rfl ?_
          refine ops_nil ?_
          refine post_next ?_
          refine code_ret ?_
          refine post_ret (rs := [.tmp 4]) rfl (List.Perm.refl _) (.cons (.tmp rfl) .nil) (List.nil_sublist _) ?_
          exact ⟨by simp only [outV, termG]; rw [if_neg h12, if_neg h17, if_neg h22, if_neg h24], rfl⟩
end Go.Proofs.Ytdcklngleglbbaa
