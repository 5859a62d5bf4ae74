/- Own texts, one behind the other: rules of a small program logic, walks through the program's functions, plain facts. No condition. -/
import Derived.Test.YtdbadicpbmndbaaGreatZ5
import Derived.WalkKit
import Derived.ProofKit
import Derived.OpenShut
import Derived.ShutString
import Derived.ChangeOld
import Derived.ChangeSlices
import Derived.Below
import Derived.Carry
import Derived.SizedLaws
/- Walks: terms put into a literal, by the document; the statement on literals. -/
set_option linter.unusedVariables false
set_option linter.unusedSimpArgs false
set_option linter.unnecessarySimpa false
/- short -/
namespace Go.Proofs.YtdbadicpbmndbaaGreat
open Go Lg

theorem RRight1_does {I : Imm} {v : Value} {t : T} (hv : RepT I v t) (hbig : t.size ≤ 1000000000) :
    Does Tryz.prog 100 [v] I [] (fun v I' δ' => v = .bool (decide (chkT t = 0)) ∧ δ' = []) := by
  obtain ⟨a0, c0, rfl, hr0⟩ := hv.shape
  refine Does.intro Tryz.func100 rfl Tryz.ntmps100 rfl fun w0 => ?_
  refine code_seq ?_
  refine code_region ?_
  refine o_box rfl rfl rfl (fun b1 => ?_)
  refine op_v (v_assign rfl) rfl ?_
  refine ops_nil ?_
  refine post_next ?_
  refine code_seq ?_
  refine code_region ?_
  refine op_v (v_loadA ty48 rfl rfl) rfl ?_
  refine op_call pl133 rfl rfl ((RCheck_does (hv.mono Imm.leA) hbig)) Parts.none ?_
  rintro _ I4 _ hI4 ⟨rfl, rfl⟩
  refine op_v (v_cmp (z := decide (chkT t = 0)) rfl rfl rfl) rfl ?_
  refine op_v (v_assign rfl) rfl ?_
  refine ops_nil ?_
  refine post_next ?_
  refine code_ret ?_
  refine post_ret (rs := [.tmp 2]) rfl (List.Perm.refl _) (.cons (.tmp rfl) .nil) (List.nil_sublist _) ?_
  exact ⟨rfl, rfl⟩
theorem RRight3_does {I : Imm} {v : Value} {bs : List Bi} (hv : RepB I v bs) (hbig : ∀ b ∈ bs, b.2.size ≤ 1000000000) :
    Does Tryz.prog 148 [v] I [] (fun v I' δ' => (∃ b, v = .bool b ∧ (b = true ↔ chkB bs)) ∧ δ' = []) := by
  obtain ⟨ad, c, rfl⟩ := hv.shape
  obtain ⟨_, hc, hb, hr, ss, hat, hsub⟩ := hv.open
  refine Does.intro Tryz.func148 rfl Tryz.ntmps148 rfl fun w0 => ?_
  refine code_seq ?_
  refine code_region ?_
  refine op_v (v_assign rfl) rfl ?_
  refine ops_nil ?_
  refine post_next ?_
  refine code_seq ?_
  refine code_seq ?_
  refine code_region ?_
  refine op_v (v_assign rfl) rfl ?_
  refine ops_nil ?_
  refine post_next ?_
  refine code_block ?_
  refine code_loop (fun m σ' I' δ' => ∃ k : Nat, m = bs.length - k ∧ k ≤ bs.length ∧ σ' = [(0, .slice ad bs.length c), (3, .int .i64 k)] ∧ I.le I' ∧ δ' = [] ∧ ∀ i (h : i < bs.length), i < k → 0 ≤ bs[i].1 ∧ badBi (if i = 0 then -1 else (bs.getD (i - 1) (0, zeroT)).1) bs[i] = false) bs.length [(0, .slice ad bs.length c), (3, .int .i64 (0 : Nat))] ⟨0, rfl, Nat.zero_le _, rfl, Imm.le_refl _, rfl, fun i _ h => by omega⟩ ⟨rfl, rfl, trivial⟩ ?_
  rintro m _ I0 _ ⟨k, rfl, hk, rfl, hI0, rfl, hp⟩
  refine code_seq ?_
  refine code_seq ?_
  refine code_region ?_
  refine op_v (v_move rfl) rfl ?_
  refine op_v (v_move rfl) rfl ?_
  refine op_v (v_len Tryz.underlying24 rfl) rfl ?_
  refine op_v (v_cmp rfl rfl rfl) rfl ?_
  refine ops_nil ?_
  refine post_next ?_
  refine code_cond rfl (fun hc0 => ?_) (fun hc0 => ?_)
  · have hlt : k < bs.length := by simpa using hc0
    have hs1 := (hat k hlt).isSome
    have hkr := hr k hlt
    unfold InR at hkr
    have hlast : ∀ (h : 0 < k), (if k = 0 then -1 else (bs.getD (k - 1) (0, zeroT)).1) = (bs[k - 1]'(by omega)).1 := fun h => by rw [if_neg (by omega), List.getD_eq_getElem?_getD, List.getElem?_eq_getElem (by omega)]; rfl
    have hprev : ∀ (h : 0 < k), 0 ≤ (bs[k - 1]'(by omega)).1 := fun h => (hp (k - 1) (by omega) (by omega)).1
    have hno : badBi (if k = 0 then -1 else (bs.getD (k - 1) (0, zeroT)).1) bs[k] = true → ¬ chkB bs := fun hq hcb => by { have := hcb k hlt; rw [hq] at this; cases this }
    refine code_skip ?_
    refine post_next ?_
    refine code_seq ?_
    refine code_block ?_
    refine code_seq ?_
    refine code_draw (.fl 0 (.fl 1 (.fl 2 (.fl 3 (.fl 4 (.fl 5 (.fl 6 (.fl 7 (.fl 8 (.fl 9 (.fl 10 (.fl 11 (.fl 12 (.fl 13 (.fl 14 (.fl 15 (.fl 16 (.fl 17 (.fl 18 (.fl 19 (.fl 20 (.fl 21 (.fl 22 (.fl 23 (.fl 24 (.fl 25 (.fl 26 (.fl 27 (.fl 28 (.fl 29 (.fl 30 (.fl 31 (.fl 32 (.fl 33 (.fl 34 (.fl 35 (.fl 36 (.fl 37 (.ef 38 (.fl 39 (.fl 40 (.fl 41 (.fl 42 (.fl 43 (.fl 44 (.fl 45 (.fl 46 (.fl 47 (.fl 48 (.fl 49 (.fl 50 (.fl 51 (.fl 52 (.fl 53 (.fl 54 (.fl 55 .done)))))))))))))))))))))))))))))))))))))))))))))))))))))))) (fun _ => _) mixed (by kernel_rfl) (by kernel_rfl) (fun _ => (List.Sublist.refl _)) ?_
    refine e_fl rfl rfl (fun hs_ => PF.mk rfl (v_move rfl) hs_) ?_
    refine e_fl rfl rfl (fun hs_ => PF.mk rfl (v_move rfl) hs_) ?_
    refine e_fl rfl rfl (fun hs_ => PF.mk rfl (v_indexA Tryz.underlying24 sz50 rfl rfl) hs_) ?_
    refine e_fl rfl rfl (fun hs_ => PF.mk rfl (v_fieldI 0 Tryz.underlying50 rfl rfl fz3 rfl (by assumption)) hs_) ?_
    refine e_fl rfl rfl (fun hs_ => PF.mk rfl (v_loadI0 ty3 ((hat k hlt).mono Imm.leA) rfl rfl rfl) hs_) ?_
    by_cases h15 : bs[k].1 < 0
    · refine e_fl rfl rfl (fun hs_ => PF.mk rfl (v_cmptA rfl rfl rfl) hs_) ?_
      refine e_fl rfl rfl (fun hs_ => PF.mk rfl (v_move rfl) hs_) ?_
      refine e_fl rfl rfl (fun hs_ => PF.mks rfl (by intro c hc; cases hc) rfl rfl (by simp [undef]) hs_) ?_
      refine e_fl rfl rfl (fun hs_ => PF.mks rfl (by intro c hc; cases hc) rfl rfl (by simp [undef]) hs_) ?_
      refine e_fl rfl rfl (fun hs_ => PF.mks rfl (by intro c hc; cases hc) rfl rfl (by simp [undef]) hs_) ?_
      refine e_fl rfl rfl (fun hs_ => PF.mks rfl (by intro c hc; cases hc) rfl rfl (by simp [undef]) hs_) ?_
      refine e_fl rfl rfl (fun hs_ => PF.mks rfl (by intro c hc; cases hc) rfl rfl (by simp [undef]) hs_) ?_
      refine e_fl rfl rfl (fun hs_ => PF.mks rfl (by intro c hc; cases hc) rfl rfl (by simp [undef]) hs_) ?_
      refine e_fl rfl rfl (fun hs_ => PF.mk rfl (v_pickt rfl rfl) hs_) ?_
      refine e_fl rfl rfl (fun hs_ => PF.mk rfl (v_move rfl) hs_) ?_
      refine e_fl rfl rfl (fun hs_ => PF.mks rfl (by intro c hc; cases hc) rfl rfl (by simp [undef]) hs_) ?_
      refine e_fl rfl rfl (fun hs_ => PF.mks rfl (by intro c hc; cases hc) rfl rfl (by simp [undef]) hs_) ?_
      refine e_fl rfl rfl (fun hs_ => PF.mks rfl (by intro c hc; cases hc) rfl rfl (by simp [undef]) hs_) ?_
      refine e_fl rfl rfl (fun hs_ => PF.mks rfl (by intro c hc; cases hc) rfl rfl (by simp [undef]) hs_) ?_
      refine e_fl rfl rfl (fun hs_ => PF.mks rfl (by intro c hc; cases hc) rfl rfl (by simp [undef]) hs_) ?_
      refine e_fl rfl rfl (fun hs_ => PF.mks rfl (by intro c hc; cases hc) rfl rfl (by simp [undef]) hs_) ?_
      refine e_fl rfl rfl (fun hs_ => PF.mks rfl (by intro c hc; cases hc) rfl rfl (by simp [undef]) hs_) ?_
      refine e_fl rfl rfl (fun hs_ => PF.mks rfl (by intro c hc; cases hc) rfl rfl (by simp [undef]) hs_) ?_
      refine e_fl rfl rfl (fun hs_ => PF.mks rfl (by intro c hc; cases hc) rfl rfl (by simp [undef]) hs_) ?_
      refine e_fl rfl rfl (fun hs_ => PF.mks rfl (by intro c hc; cases hc) rfl rfl (by simp [undef]) hs_) ?_
      refine e_fl rfl rfl (fun hs_ => PF.mks rfl (by intro c hc; cases hc) rfl rfl (by simp [undef]) hs_) ?_
      refine e_fl rfl rfl (fun hs_ => PF.mks rfl (by intro c hc; cases hc) rfl rfl (by simp [undef]) hs_) ?_
      refine e_fl rfl rfl (fun hs_ => PF.mks rfl (by intro c hc; cases hc) rfl rfl (by simp [undef]) hs_) ?_
      refine e_fl rfl rfl (fun hs_ => PF.mks rfl (by intro c hc; cases hc) rfl rfl (by simp [undef]) hs_) ?_
      refine e_fl rfl rfl (fun hs_ => PF.mks rfl (by intro c hc; cases hc) rfl rfl (by simp [undef]) hs_) ?_
      refine e_fl rfl rfl (fun hs_ => PF.mks rfl (by intro c hc; cases hc) rfl rfl (by simp [undef]) hs_) ?_
      refine e_fl rfl rfl (fun hs_ => PF.mk rfl (v_pickt rfl rfl) hs_) ?_
      refine e_fl rfl rfl (fun hs_ => PF.mk rfl (v_move rfl) hs_) ?_
      refine e_fl rfl rfl (fun hs_ => PF.mks rfl (by intro c hc; cases hc) rfl rfl (by simp [undef]) hs_) ?_
      refine e_fl rfl rfl (fun hs_ => PF.mks rfl (by intro c hc; cases hc) rfl rfl (by simp [undef]) hs_) ?_
      refine e_fl rfl rfl (fun hs_ => PF.mks rfl (by intro c hc; cases hc) rfl rfl (by simp [undef]) hs_) ?_
      refine e_fl rfl rfl (fun hs_ => PF.mks rfl (by intro c hc; cases hc) rfl rfl (by simp [undef]) hs_) ?_
      refine e_fl rfl rfl (fun hs_ => PF.mks rfl (by intro c hc; cases hc) rfl rfl (by simp [undef]) hs_) ?_
      refine e_eff rfl (by intro cs b hc; cases hc) (by intro c hc; cases hc) ?_
      refine op_skip rfl rfl (by simp [undef]) rfl ?_
      refine ops_nil ?_
      refine e_next rfl side_allA ?_
      refine e_fl rfl rfl (fun hs_ => PF.mks rfl (by intro c hc; cases hc) rfl rfl (by simp [undef]) hs_) ?_
      refine e_fl rfl rfl (fun hs_ => PF.mk rfl (v_pickt rfl rfl) hs_) ?_
      refine e_fl rfl rfl (fun hs_ => PF.mk rfl (v_move rfl) hs_) ?_
      refine e_fl rfl rfl (fun hs_ => PF.mks rfl (by intro c hc; cases hc) rfl rfl (by simp [undef]) hs_) ?_
      refine e_fl rfl rfl (fun hs_ => PF.mks rfl (by intro c hc; cases hc) rfl rfl (by simp [undef]) hs_) ?_
      refine e_fl rfl rfl (fun hs_ => PF.mks rfl (by intro c hc; cases hc) rfl rfl (by simp [undef]) hs_) ?_
      refine e_fl rfl rfl (fun hs_ => PF.mks rfl (by intro c hc; cases hc) rfl rfl (by simp [undef]) hs_) ?_
      refine e_fl rfl rfl (fun hs_ => PF.mks rfl (by intro c hc; cases hc) rfl rfl (by simp [undef]) hs_) ?_
      refine e_fl rfl rfl (fun hs_ => PF.mks rfl (by intro c hc; cases hc) rfl rfl (by simp [undef]) hs_) ?_
      refine e_fl rfl rfl (fun hs_ => PF.mks rfl (by intro c hc; cases hc) rfl rfl (by simp [undef]) hs_) ?_
      refine e_fl rfl rfl (fun hs_ => PF.mks rfl (by intro c hc; cases hc) rfl rfl (by simp [undef]) hs_) ?_
      refine e_fl rfl rfl (fun hs_ => PF.mks rfl (by intro c hc; cases hc) rfl rfl (by simp [undef]) hs_) ?_
      refine e_fl rfl rfl (fun hs_ => PF.mks rfl (by intro c hc; cases hc) rfl rfl (by simp [undef]) hs_) ?_
      refine e_fl rfl rfl (fun hs_ => PF.mks rfl (by intro c hc; cases hc) rfl rfl (by simp [undef]) hs_) ?_
      refine e_fl rfl rfl (fun hs_ => PF.mks rfl (by intro c hc; cases hc) rfl rfl (by simp [undef]) hs_) ?_
      refine e_fl rfl rfl (fun hs_ => PF.mks rfl (by intro c hc; cases hc) rfl rfl (by simp [undef]) hs_) ?_
      refine e_fl rfl rfl (fun hs_ => PF.mk rfl (v_pickt rfl rfl) hs_) ?_
      refine e_done ?_
      refine post_next ?_
      refine code_cond_t rfl ?_
      refine code_seq ?_
      refine code_region ?_
      refine op_v (v_assign rfl) rfl ?_
      refine ops_nil ?_
      refine post_next ?_
      refine code_ret ?_
      refine post_ret_block ?_
      refine post_ret_then ?_
      refine post_ret_then ?_
      refine post_ret_block ?_
      refine post_ret_then ?_
      refine post_ret (rs := [.tmp 2]) rfl (List.Perm.refl _) (.cons (.tmp rfl) .nil) (List.nil_sublist _) ?_
      exact ⟨⟨false, rfl, by simp only [Bool.false_eq_true, false_iff]; refine hno ?_; simp only [badBi, Bool.or_eq_true, decide_eq_true_eq]; left; by_cases h0 : k = 0; (rw [if_pos h0]; omega); (rw [hlast (by omega)]; have := hprev (by omega); omega)⟩, rfl⟩
    · refine e_fl rfl rfl (fun hs_ => PF.mk rfl (v_cmpfA rfl rfl rfl) hs_) ?_
      refine e_fl rfl rfl (fun hs_ => PF.mk rfl (v_move rfl) hs_) ?_
      refine e_fl rfl rfl (fun hs_ => PF.mkg rfl rfl rfl (v_move rfl) hs_) ?_
      refine e_fl rfl rfl (fun hs_ => PF.mkg rfl rfl rfl (v_move rfl) hs_) ?_
      refine e_fl rfl rfl (fun hs_ => PF.mkg rfl rfl rfl (v_indexA Tryz.underlying24 sz50 rfl rfl) hs_) ?_
      refine e_fl rfl rfl (fun hs_ => PF.mkg rfl rfl rfl (v_fieldI 0 Tryz.underlying50 rfl rfl fz3 rfl (by assumption)) hs_) ?_
      refine e_fl rfl rfl (fun hs_ => PF.mkg rfl rfl rfl (v_loadI0 ty3 ((hat k hlt).mono Imm.leA) rfl rfl rfl) hs_) ?_
      by_cases h22 : 255 < bs[k].1
      · refine e_fl rfl rfl (fun hs_ => PF.mkg rfl rfl rfl (v_cmptA rfl rfl rfl) hs_) ?_
        refine e_fl rfl rfl (fun hs_ => PF.mk rfl (v_pickf rfl rfl) hs_) ?_
        refine e_fl rfl rfl (fun hs_ => PF.mk rfl (v_move rfl) hs_) ?_
        refine e_fl rfl rfl (fun hs_ => PF.mks rfl (by intro c hc; cases hc) rfl rfl (by simp [undef]) hs_) ?_
        refine e_fl rfl rfl (fun hs_ => PF.mks rfl (by intro c hc; cases hc) rfl rfl (by simp [undef]) hs_) ?_
        refine e_fl rfl rfl (fun hs_ => PF.mks rfl (by intro c hc; cases hc) rfl rfl (by simp [undef]) hs_) ?_
        refine e_fl rfl rfl (fun hs_ => PF.mks rfl (by intro c hc; cases hc) rfl rfl (by simp [undef]) hs_) ?_
        refine e_fl rfl rfl (fun hs_ => PF.mks rfl (by intro c hc; cases hc) rfl rfl (by simp [undef]) hs_) ?_
        refine e_fl rfl rfl (fun hs_ => PF.mks rfl (by intro c hc; cases hc) rfl rfl (by simp [undef]) hs_) ?_
        refine e_fl rfl rfl (fun hs_ => PF.mks rfl (by intro c hc; cases hc) rfl rfl (by simp [undef]) hs_) ?_
        refine e_fl rfl rfl (fun hs_ => PF.mks rfl (by intro c hc; cases hc) rfl rfl (by simp [undef]) hs_) ?_
        refine e_fl rfl rfl (fun hs_ => PF.mks rfl (by intro c hc; cases hc) rfl rfl (by simp [undef]) hs_) ?_
        refine e_fl rfl rfl (fun hs_ => PF.mks rfl (by intro c hc; cases hc) rfl rfl (by simp [undef]) hs_) ?_
        refine e_fl rfl rfl (fun hs_ => PF.mks rfl (by intro c hc; cases hc) rfl rfl (by simp [undef]) hs_) ?_
        refine e_fl rfl rfl (fun hs_ => PF.mks rfl (by intro c hc; cases hc) rfl rfl (by simp [undef]) hs_) ?_
        refine e_fl rfl rfl (fun hs_ => PF.mks rfl (by intro c hc; cases hc) rfl rfl (by simp [undef]) hs_) ?_
        refine e_fl rfl rfl (fun hs_ => PF.mks rfl (by intro c hc; cases hc) rfl rfl (by simp [undef]) hs_) ?_
        refine e_fl rfl rfl (fun hs_ => PF.mks rfl (by intro c hc; cases hc) rfl rfl (by simp [undef]) hs_) ?_
        refine e_fl rfl rfl (fun hs_ => PF.mks rfl (by intro c hc; cases hc) rfl rfl (by simp [undef]) hs_) ?_
        refine e_fl rfl rfl (fun hs_ => PF.mk rfl (v_pickt rfl rfl) hs_) ?_
        refine e_fl rfl rfl (fun hs_ => PF.mk rfl (v_move rfl) hs_) ?_
        refine e_fl rfl rfl (fun hs_ => PF.mks rfl (by intro c hc; cases hc) rfl rfl (by simp [undef]) hs_) ?_
        refine e_fl rfl rfl (fun hs_ => PF.mks rfl (by intro c hc; cases hc) rfl rfl (by simp [undef]) hs_) ?_
        refine e_fl rfl rfl (fun hs_ => PF.mks rfl (by intro c hc; cases hc) rfl rfl (by simp [undef]) hs_) ?_
        refine e_fl rfl rfl (fun hs_ => PF.mks rfl (by intro c hc; cases hc) rfl rfl (by simp [undef]) hs_) ?_
        refine e_fl rfl rfl (fun hs_ => PF.mks rfl (by intro c hc; cases hc) rfl rfl (by simp [undef]) hs_) ?_
        refine e_eff rfl (by intro cs b hc; cases hc) (by intro c hc; cases hc) ?_
        refine op_skip rfl rfl (by simp [undef]) rfl ?_
        refine ops_nil ?_
        refine e_next rfl side_allA ?_
        refine e_fl rfl rfl (fun hs_ => PF.mks rfl (by intro c hc; cases hc) rfl rfl (by simp [undef]) hs_) ?_
        refine e_fl rfl rfl (fun hs_ => PF.mk rfl (v_pickt rfl rfl) hs_) ?_
        refine e_fl rfl rfl (fun hs_ => PF.mk rfl (v_move rfl) hs_) ?_
        refine e_fl rfl rfl (fun hs_ => PF.mks rfl (by intro c hc; cases hc) rfl rfl (by simp [undef]) hs_) ?_
        refine e_fl rfl rfl (fun hs_ => PF.mks rfl (by intro c hc; cases hc) rfl rfl (by simp [undef]) hs_) ?_
        refine e_fl rfl rfl (fun hs_ => PF.mks rfl (by intro c hc; cases hc) rfl rfl (by simp [undef]) hs_) ?_
        refine e_fl rfl rfl (fun hs_ => PF.mks rfl (by intro c hc; cases hc) rfl rfl (by simp [undef]) hs_) ?_
        refine e_fl rfl rfl (fun hs_ => PF.mks rfl (by intro c hc; cases hc) rfl rfl (by simp [undef]) hs_) ?_
        refine e_fl rfl rfl (fun hs_ => PF.mks rfl (by intro c hc; cases hc) rfl rfl (by simp [undef]) hs_) ?_
        refine e_fl rfl rfl (fun hs_ => PF.mks rfl (by intro c hc; cases hc) rfl rfl (by simp [undef]) hs_) ?_
        refine e_fl rfl rfl (fun hs_ => PF.mks rfl (by intro c hc; cases hc) rfl rfl (by simp [undef]) hs_) ?_
        refine e_fl rfl rfl (fun hs_ => PF.mks rfl (by intro c hc; cases hc) rfl rfl (by simp [undef]) hs_) ?_
        refine e_fl rfl rfl (fun hs_ => PF.mks rfl (by intro c hc; cases hc) rfl rfl (by simp [undef]) hs_) ?_
        refine e_fl rfl rfl (fun hs_ => PF.mks rfl (by intro c hc; cases hc) rfl rfl (by simp [undef]) hs_) ?_
        refine e_fl rfl rfl (fun hs_ => PF.mks rfl (by intro c hc; cases hc) rfl rfl (by simp [undef]) hs_) ?_
        refine e_fl rfl rfl (fun hs_ => PF.mks rfl (by intro c hc; cases hc) rfl rfl (by simp [undef]) hs_) ?_
        refine e_fl rfl rfl (fun hs_ => PF.mk rfl (v_pickt rfl rfl) hs_) ?_
        refine e_done ?_
        refine post_next ?_
        refine code_cond_t rfl ?_
        refine code_seq ?_
        refine code_region ?_
        refine op_v (v_assign rfl) rfl ?_
        refine ops_nil ?_
        refine post_next ?_
        refine code_ret ?_
        refine post_ret_block ?_
        refine post_ret_then ?_
        refine post_ret_then ?_
        refine post_ret_block ?_
        refine post_ret_then ?_
        refine post_ret (rs := [.tmp 2]) rfl (List.Perm.refl _) (.cons (.tmp rfl) .nil) (List.nil_sublist _) ?_
        exact ⟨⟨false, rfl, by simp only [Bool.false_eq_true, false_iff]; exact hno (by simp [badBi, h22])⟩, rfl⟩
      · refine e_fl rfl rfl (fun hs_ => PF.mkg rfl rfl rfl (v_cmpfA rfl rfl rfl) hs_) ?_
        refine e_fl rfl rfl (fun hs_ => PF.mk rfl (v_pickf rfl rfl) hs_) ?_
        refine e_fl rfl rfl (fun hs_ => PF.mk rfl (v_move rfl) hs_) ?_
        refine e_fl rfl rfl (fun hs_ => PF.mkg rfl rfl rfl (v_move rfl) hs_) ?_
        by_cases h26 : 0 < k
        · have hlt2 : k - 1 < bs.length := by omega
          have hs2 := (hat (k - 1) hlt2).isSome
          refine e_fl rfl rfl (fun hs_ => PF.mkg rfl rfl rfl (v_cmptA rfl rfl rfl) hs_) ?_
          refine e_fl rfl rfl (fun hs_ => PF.mkg rfl rfl rfl (v_move rfl) hs_) ?_
          refine e_fl rfl rfl (fun hs_ => PF.mkg rfl rfl rfl (v_move rfl) hs_) ?_
          refine e_fl rfl rfl (fun hs_ => PF.mkg rfl rfl rfl (v_move rfl) hs_) ?_
          refine e_fl rfl rfl (fun hs_ => PF.mkg rfl rfl rfl (v_indexA Tryz.underlying24 sz50 rfl rfl) hs_) ?_
          refine e_fl rfl rfl (fun hs_ => PF.mkg rfl rfl rfl (v_fieldI 0 Tryz.underlying50 rfl rfl fz3 rfl (by assumption)) hs_) ?_
          refine e_fl rfl rfl (fun hs_ => PF.mkg rfl rfl rfl (v_loadI0 ty3 ((hat k hlt).mono Imm.leA) rfl rfl rfl) hs_) ?_
          refine e_fl rfl rfl (fun hs_ => PF.mkg rfl rfl rfl (v_move rfl) hs_) ?_
          refine e_fl rfl rfl (fun hs_ => PF.mkg rfl rfl rfl (v_move rfl) hs_) ?_
          refine e_fl rfl rfl (fun hs_ => PF.mkg rfl rfl rfl (v_subb (c := ((k - 1 : Nat) : Int)) rfl rfl (by omega) (by omega)) hs_) ?_
          refine e_fl rfl rfl (fun hs_ => PF.mkg rfl rfl rfl (v_indexA Tryz.underlying24 sz50 rfl rfl) hs_) ?_
          refine e_fl rfl rfl (fun hs_ => PF.mkg rfl rfl rfl (v_fieldI 0 Tryz.underlying50 rfl rfl fz3 rfl (by assumption)) hs_) ?_
          refine e_fl rfl rfl (fun hs_ => PF.mkg rfl rfl rfl (v_loadI0 ty3 ((hat (k - 1) hlt2).mono Imm.leA) rfl rfl rfl) hs_) ?_
          by_cases h39 : bs[k].1 ≤ bs[k - 1].1
          · refine e_fl rfl rfl (fun hs_ => PF.mkg rfl rfl rfl (v_cmptA rfl rfl rfl) hs_) ?_
            refine e_fl rfl rfl (fun hs_ => PF.mkg rfl rfl rfl (v_pickt rfl rfl) hs_) ?_
            refine e_fl rfl rfl (fun hs_ => PF.mk rfl (v_pickf rfl rfl) hs_) ?_
            refine e_fl rfl rfl (fun hs_ => PF.mk rfl (v_move rfl) hs_) ?_
            refine e_fl rfl rfl (fun hs_ => PF.mks rfl (by intro c hc; cases hc) rfl rfl (by simp [undef]) hs_) ?_
            refine e_fl rfl rfl (fun hs_ => PF.mks rfl (by intro c hc; cases hc) rfl rfl (by simp [undef]) hs_) ?_
            refine e_fl rfl rfl (fun hs_ => PF.mks rfl (by intro c hc; cases hc) rfl rfl (by simp [undef]) hs_) ?_
            refine e_fl rfl rfl (fun hs_ => PF.mks rfl (by intro c hc; cases hc) rfl rfl (by simp [undef]) hs_) ?_
            refine e_fl rfl rfl (fun hs_ => PF.mks rfl (by intro c hc; cases hc) rfl rfl (by simp [undef]) hs_) ?_
            refine e_eff rfl (by intro cs b hc; cases hc) (by intro c hc; cases hc) ?_
            refine op_skip rfl rfl (by simp [undef]) rfl ?_
            refine ops_nil ?_
            refine e_next rfl side_allA ?_
            refine e_fl rfl rfl (fun hs_ => PF.mks rfl (by intro c hc; cases hc) rfl rfl (by simp [undef]) hs_) ?_
            refine e_fl rfl rfl (fun hs_ => PF.mk rfl (v_pickt rfl rfl) hs_) ?_
            refine e_fl rfl rfl (fun hs_ => PF.mk rfl (v_move rfl) hs_) ?_
            refine e_fl rfl rfl (fun hs_ => PF.mks rfl (by intro c hc; cases hc) rfl rfl (by simp [undef]) hs_) ?_
            refine e_fl rfl rfl (fun hs_ => PF.mks rfl (by intro c hc; cases hc) rfl rfl (by simp [undef]) hs_) ?_
            refine e_fl rfl rfl (fun hs_ => PF.mks rfl (by intro c hc; cases hc) rfl rfl (by simp [undef]) hs_) ?_
            refine e_fl rfl rfl (fun hs_ => PF.mks rfl (by intro c hc; cases hc) rfl rfl (by simp [undef]) hs_) ?_
            refine e_fl rfl rfl (fun hs_ => PF.mks rfl (by intro c hc; cases hc) rfl rfl (by simp [undef]) hs_) ?_
            refine e_fl rfl rfl (fun hs_ => PF.mks rfl (by intro c hc; cases hc) rfl rfl (by simp [undef]) hs_) ?_
            refine e_fl rfl rfl (fun hs_ => PF.mks rfl (by intro c hc; cases hc) rfl rfl (by simp [undef]) hs_) ?_
            refine e_fl rfl rfl (fun hs_ => PF.mks rfl (by intro c hc; cases hc) rfl rfl (by simp [undef]) hs_) ?_
            refine e_fl rfl rfl (fun hs_ => PF.mks rfl (by intro c hc; cases hc) rfl rfl (by simp [undef]) hs_) ?_
            refine e_fl rfl rfl (fun hs_ => PF.mks rfl (by intro c hc; cases hc) rfl rfl (by simp [undef]) hs_) ?_
            refine e_fl rfl rfl (fun hs_ => PF.mks rfl (by intro c hc; cases hc) rfl rfl (by simp [undef]) hs_) ?_
            refine e_fl rfl rfl (fun hs_ => PF.mks rfl (by intro c hc; cases hc) rfl rfl (by simp [undef]) hs_) ?_
            refine e_fl rfl rfl (fun hs_ => PF.mks rfl (by intro c hc; cases hc) rfl rfl (by simp [undef]) hs_) ?_
            refine e_fl rfl rfl (fun hs_ => PF.mk rfl (v_pickt rfl rfl) hs_) ?_
            refine e_done ?_
            refine post_next ?_
            refine code_cond_t rfl ?_
            refine code_seq ?_
            refine code_region ?_
            refine op_v (v_assign rfl) rfl ?_
            refine ops_nil ?_
            refine post_next ?_
            refine code_ret ?_
            refine post_ret_block ?_
            refine post_ret_then ?_
            refine post_ret_then ?_
            refine post_ret_block ?_
            refine post_ret_then ?_
            refine post_ret (rs := [.tmp 2]) rfl (List.Perm.refl _) (.cons (.tmp rfl) .nil) (List.nil_sublist _) ?_
            exact ⟨⟨false, rfl, by simp only [Bool.false_eq_true, false_iff]; exact hno (by rw [hlast h26]; simp [badBi, h39])⟩, rfl⟩
          · refine e_fl rfl rfl (fun hs_ => PF.mkg rfl rfl rfl (v_cmpfA rfl rfl rfl) hs_) ?_
            refine e_fl rfl rfl (fun hs_ => PF.mkg rfl rfl rfl (v_pickt rfl rfl) hs_) ?_
            refine e_fl rfl rfl (fun hs_ => PF.mk rfl (v_pickf rfl rfl) hs_) ?_
            refine e_fl rfl rfl (fun hs_ => PF.mk rfl (v_move rfl) hs_) ?_
            refine e_fl rfl rfl (fun hs_ => PF.mkg rfl rfl rfl (v_move rfl) hs_) ?_
            refine e_fl rfl rfl (fun hs_ => PF.mkg rfl rfl rfl (v_move rfl) hs_) ?_
            refine e_fl rfl rfl (fun hs_ => PF.mkg rfl rfl rfl (v_indexA Tryz.underlying24 sz50 rfl rfl) hs_) ?_
            refine e_fl rfl rfl (fun hs_ => PF.mkg rfl rfl rfl (v_fieldI 1 Tryz.underlying50 rfl rfl fz48 rfl (by assumption)) hs_) ?_
            refine e_fl rfl rfl (fun hs_ => PF.mkg rfl rfl rfl (v_loadI ty48 ((hat k hlt).mono Imm.leA) rfl rfl rfl) hs_) ?_
            refine e_eff rfl (by intro cs b hc; cases hc) (by intro c hc; cases hc) ?_
            refine op_want rfl rfl ?_
            refine op_call pl100 rfl rfl ((RRight1_does ((hsub k hlt).mono Imm.leA) (hbig _ (List.getElem_mem _)))) Parts.none ?_
            rintro _ I48 _ hI48 ⟨rfl, rfl⟩
            refine ops_nil ?_
            refine e_next rfl side_allA ?_
            by_cases h49 : chkT bs[k].2 = 0
            · rw [show decide (chkT bs[k].2 = 0) = true by simpa using h49]
              refine e_fl rfl rfl (fun hs_ => PF.mkg rfl rfl rfl (v_not rfl) hs_) ?_
              refine e_fl rfl rfl (fun hs_ => PF.mk rfl (v_pickf rfl rfl) hs_) ?_
              refine e_fl rfl rfl (fun hs_ => PF.mk rfl (v_move rfl) hs_) ?_
              refine e_fl rfl rfl (fun hs_ => PF.mkg rfl rfl rfl (v_move rfl) hs_) ?_
              refine e_fl rfl rfl (fun hs_ => PF.mkg rfl rfl rfl (v_move rfl) hs_) ?_
              refine e_fl rfl rfl (fun hs_ => PF.mkg rfl rfl rfl (v_indexA Tryz.underlying24 sz50 rfl rfl) hs_) ?_
              refine e_fl rfl rfl (fun hs_ => PF.mkg rfl rfl rfl (v_fieldI 1 Tryz.underlying50 rfl rfl fz48 rfl (by assumption)) hs_) ?_
              refine e_fl rfl rfl (fun hs_ => PF.mkg rfl rfl rfl (v_fieldI 0 Tryz.underlying48 rfl rfl fz3 rfl (by assumption)) hs_) ?_
              refine e_fl rfl rfl (fun hs_ => PF.mkg rfl rfl rfl (v_loadI ty3 ((hat k hlt).mono Imm.leA) rfl rfl rfl) hs_) ?_
              refine e_fl rfl rfl (fun hs_ => PF.mkg rfl rfl rfl (v_move rfl) hs_) ?_
              refine e_fl rfl rfl (fun hs_ => PF.mkg rfl rfl rfl (v_move rfl) hs_) ?_
              refine e_fl rfl rfl (fun hs_ => PF.mkg rfl rfl rfl (v_indexA Tryz.underlying24 sz50 rfl rfl) hs_) ?_
              refine e_fl rfl rfl (fun hs_ => PF.mkg rfl rfl rfl (v_fieldI 0 Tryz.underlying50 rfl rfl fz3 rfl (by assumption)) hs_) ?_
              refine e_fl rfl rfl (fun hs_ => PF.mkg rfl rfl rfl (v_loadI0 ty3 ((hat k hlt).mono Imm.leA) rfl rfl rfl) hs_) ?_
              refine e_fl rfl rfl (fun hs_ => PF.mkg rfl rfl rfl (v_subb rfl rfl rfl (by omega)) hs_) ?_
              by_cases h64 : bs[k].2.head = -1 - bs[k].1
              · refine e_fl rfl rfl (fun hs_ => PF.mkg rfl rfl rfl (v_cmptA rfl rfl rfl) hs_) ?_
                refine e_fl rfl rfl (fun hs_ => PF.mk rfl (v_pickf rfl rfl) hs_) ?_
                refine e_done ?_
                refine post_next ?_
                refine code_cond_t rfl ?_
                refine code_seq ?_
                refine code_region ?_
                refine op_v (v_assign rfl) rfl ?_
                refine ops_nil ?_
                refine post_next ?_
                refine code_ret ?_
                refine post_ret_block ?_
                refine post_ret_then ?_
                refine post_ret_then ?_
                refine post_ret_block ?_
                refine post_ret_then ?_
                refine post_ret (rs := [.tmp 2]) rfl (List.Perm.refl _) (.cons (.tmp rfl) .nil) (List.nil_sublist _) ?_
                exact ⟨⟨false, rfl, by simp only [Bool.false_eq_true, false_iff]; exact hno (by simp [badBi, h64])⟩, rfl⟩
              · refine e_fl rfl rfl (fun hs_ => PF.mkg rfl rfl rfl (v_cmpfA rfl rfl rfl) hs_) ?_
                refine e_fl rfl rfl (fun hs_ => PF.mk rfl (v_pickf rfl rfl) hs_) ?_
                refine e_done ?_
                refine post_next ?_
                refine code_cond_f rfl ?_
                refine code_skip ?_
                refine post_out ?_
                refine post_next ?_
                refine code_region ?_
                refine op_v (v_move rfl) rfl ?_
                refine op_v (v_addb rfl rfl rfl (by omega)) rfl ?_
                refine op_v (v_assign rfl) rfl ?_
                refine ops_nil ?_
                refine post_again (bs.length - (k + 1)) [(0, .slice ad bs.length c), (3, .int .i64 (k + 1 : Nat))] (by omega) ⟨k + 1, rfl, hlt, rfl, Imm.leA, rfl, fun i h hi => ?_⟩ ⟨rfl, rfl, trivial⟩
                rcases Nat.lt_or_ge i k with hik | hik
                · exact hp i h hik
                have hik2 : i = k := by omega
                subst hik2
                refine ⟨by omega, ?_⟩
                have hl2 : ¬ bs[i].1 ≤ (if i = 0 then -1 else (bs.getD (i - 1) (0, zeroT)).1) := by
                  by_cases h0 : i = 0
                  · rw [if_pos h0]; omega
                  · rw [hlast (by omega)]; first | exact h39 | omega
                simp only [badBi, Bool.or_eq_false_iff, decide_eq_false_iff_not]
                exact ⟨hl2, by omega, by omega, by omega⟩
            · rw [show decide (chkT bs[k].2 = 0) = false by simpa using h49]
              refine e_fl rfl rfl (fun hs_ => PF.mkg rfl rfl rfl (v_not rfl) hs_) ?_
              refine e_fl rfl rfl (fun hs_ => PF.mk rfl (v_pickf rfl rfl) hs_) ?_
              refine e_fl rfl rfl (fun hs_ => PF.mk rfl (v_move rfl) hs_) ?_
              refine e_fl rfl rfl (fun hs_ => PF.mks rfl (by intro c hc; cases hc) rfl rfl (by simp [undef]) hs_) ?_
              refine e_fl rfl rfl (fun hs_ => PF.mks rfl (by intro c hc; cases hc) rfl rfl (by simp [undef]) hs_) ?_
              refine e_fl rfl rfl (fun hs_ => PF.mks rfl (by intro c hc; cases hc) rfl rfl (by simp [undef]) hs_) ?_
              refine e_fl rfl rfl (fun hs_ => PF.mks rfl (by intro c hc; cases hc) rfl rfl (by simp [undef]) hs_) ?_
              refine e_fl rfl rfl (fun hs_ => PF.mks rfl (by intro c hc; cases hc) rfl rfl (by simp [undef]) hs_) ?_
              refine e_fl rfl rfl (fun hs_ => PF.mks rfl (by intro c hc; cases hc) rfl rfl (by simp [undef]) hs_) ?_
              refine e_fl rfl rfl (fun hs_ => PF.mks rfl (by intro c hc; cases hc) rfl rfl (by simp [undef]) hs_) ?_
              refine e_fl rfl rfl (fun hs_ => PF.mks rfl (by intro c hc; cases hc) rfl rfl (by simp [undef]) hs_) ?_
              refine e_fl rfl rfl (fun hs_ => PF.mks rfl (by intro c hc; cases hc) rfl rfl (by simp [undef]) hs_) ?_
              refine e_fl rfl rfl (fun hs_ => PF.mks rfl (by intro c hc; cases hc) rfl rfl (by simp [undef]) hs_) ?_
              refine e_fl rfl rfl (fun hs_ => PF.mks rfl (by intro c hc; cases hc) rfl rfl (by simp [undef]) hs_) ?_
              refine e_fl rfl rfl (fun hs_ => PF.mks rfl (by intro c hc; cases hc) rfl rfl (by simp [undef]) hs_) ?_
              refine e_fl rfl rfl (fun hs_ => PF.mks rfl (by intro c hc; cases hc) rfl rfl (by simp [undef]) hs_) ?_
              refine e_fl rfl rfl (fun hs_ => PF.mk rfl (v_pickt rfl rfl) hs_) ?_
              refine e_done ?_
              refine post_next ?_
              refine code_cond_t rfl ?_
              refine code_seq ?_
              refine code_region ?_
              refine op_v (v_assign rfl) rfl ?_
              refine ops_nil ?_
              refine post_next ?_
              refine code_ret ?_
              refine post_ret_block ?_
              refine post_ret_then ?_
              refine post_ret_then ?_
              refine post_ret_block ?_
              refine post_ret_then ?_
              refine post_ret (rs := [.tmp 2]) rfl (List.Perm.refl _) (.cons (.tmp rfl) .nil) (List.nil_sublist _) ?_
              exact ⟨⟨false, rfl, by simp only [Bool.false_eq_true, false_iff]; exact hno (by simp [badBi, h49])⟩, rfl⟩
        · refine e_fl rfl rfl (fun hs_ => PF.mkg rfl rfl rfl (v_cmpfA rfl rfl rfl) hs_) ?_
          refine e_fl rfl rfl (fun hs_ => PF.mkg rfl rfl rfl (v_move rfl) hs_) ?_
          refine e_fl rfl rfl (fun hs_ => PF.mks rfl (by intro c hc; cases hc) rfl rfl (by simp [undef]) hs_) ?_
          refine e_fl rfl rfl (fun hs_ => PF.mks rfl (by intro c hc; cases hc) rfl rfl (by simp [undef]) hs_) ?_
          refine e_fl rfl rfl (fun hs_ => PF.mks rfl (by intro c hc; cases hc) rfl rfl (by simp [undef]) hs_) ?_
          refine e_fl rfl rfl (fun hs_ => PF.mks rfl (by intro c hc; cases hc) rfl rfl (by simp [undef]) hs_) ?_
          refine e_fl rfl rfl (fun hs_ => PF.mks rfl (by intro c hc; cases hc) rfl rfl (by simp [undef]) hs_) ?_
          refine e_fl rfl rfl (fun hs_ => PF.mks rfl (by intro c hc; cases hc) rfl rfl (by simp [undef]) hs_) ?_
          refine e_fl rfl rfl (fun hs_ => PF.mks rfl (by intro c hc; cases hc) rfl rfl (by simp [undef]) hs_) ?_
          refine e_fl rfl rfl (fun hs_ => PF.mks rfl (by intro c hc; cases hc) rfl rfl (by simp [undef]) hs_) ?_
          refine e_fl rfl rfl (fun hs_ => PF.mks rfl (by intro c hc; cases hc) rfl rfl (by simp [undef]) hs_) ?_
          refine e_fl rfl rfl (fun hs_ => PF.mks rfl (by intro c hc; cases hc) rfl rfl (by simp [undef]) hs_) ?_
          refine e_fl rfl rfl (fun hs_ => PF.mks rfl (by intro c hc; cases hc) rfl rfl (by simp [undef]) hs_) ?_
          refine e_fl rfl rfl (fun hs_ => PF.mks rfl (by intro c hc; cases hc) rfl rfl (by simp [undef]) hs_) ?_
          refine e_fl rfl rfl (fun hs_ => PF.mkg rfl rfl rfl (v_pickf rfl rfl) hs_) ?_
          refine e_fl rfl rfl (fun hs_ => PF.mk rfl (v_pickf rfl rfl) hs_) ?_
          refine e_fl rfl rfl (fun hs_ => PF.mk rfl (v_move rfl) hs_) ?_
          refine e_fl rfl rfl (fun hs_ => PF.mkg rfl rfl rfl (v_move rfl) hs_) ?_
          refine e_fl rfl rfl (fun hs_ => PF.mkg rfl rfl rfl (v_move rfl) hs_) ?_
          refine e_fl rfl rfl (fun hs_ => PF.mkg rfl rfl rfl (v_indexA Tryz.underlying24 sz50 rfl rfl) hs_) ?_
          refine e_fl rfl rfl (fun hs_ => PF.mkg rfl rfl rfl (v_fieldI 1 Tryz.underlying50 rfl rfl fz48 rfl (by assumption)) hs_) ?_
          refine e_fl rfl rfl (fun hs_ => PF.mkg rfl rfl rfl (v_loadI ty48 ((hat k hlt).mono Imm.leA) rfl rfl rfl) hs_) ?_
          refine e_eff rfl (by intro cs b hc; cases hc) (by intro c hc; cases hc) ?_
          refine op_want rfl rfl ?_
          refine op_call pl100 rfl rfl ((RRight1_does ((hsub k hlt).mono Imm.leA) (hbig _ (List.getElem_mem _)))) Parts.none ?_
          rintro _ I48 _ hI48 ⟨rfl, rfl⟩
          refine ops_nil ?_
          refine e_next rfl side_allA ?_
          by_cases h49 : chkT bs[k].2 = 0
          · rw [show decide (chkT bs[k].2 = 0) = true by simpa using h49]
            refine e_fl rfl rfl (fun hs_ => PF.mkg rfl rfl rfl (v_not rfl) hs_) ?_
            refine e_fl rfl rfl (fun hs_ => PF.mk rfl (v_pickf rfl rfl) hs_) ?_
            refine e_fl rfl rfl (fun hs_ => PF.mk rfl (v_move rfl) hs_) ?_
            refine e_fl rfl rfl (fun hs_ => PF.mkg rfl rfl rfl (v_move rfl) hs_) ?_
            refine e_fl rfl rfl (fun hs_ => PF.mkg rfl rfl rfl (v_move rfl) hs_) ?_
            refine e_fl rfl rfl (fun hs_ => PF.mkg rfl rfl rfl (v_indexA Tryz.underlying24 sz50 rfl rfl) hs_) ?_
            refine e_fl rfl rfl (fun hs_ => PF.mkg rfl rfl rfl (v_fieldI 1 Tryz.underlying50 rfl rfl fz48 rfl (by assumption)) hs_) ?_
            refine e_fl rfl rfl (fun hs_ => PF.mkg rfl rfl rfl (v_fieldI 0 Tryz.underlying48 rfl rfl fz3 rfl (by assumption)) hs_) ?_
            refine e_fl rfl rfl (fun hs_ => PF.mkg rfl rfl rfl (v_loadI ty3 ((hat k hlt).mono Imm.leA) rfl rfl rfl) hs_) ?_
            refine e_fl rfl rfl (fun hs_ => PF.mkg rfl rfl rfl (v_move rfl) hs_) ?_
            refine e_fl rfl rfl (fun hs_ => PF.mkg rfl rfl rfl (v_move rfl) hs_) ?_
            refine e_fl rfl rfl (fun hs_ => PF.mkg rfl rfl rfl (v_indexA Tryz.underlying24 sz50 rfl rfl) hs_) ?_
            refine e_fl rfl rfl (fun hs_ => PF.mkg rfl rfl rfl (v_fieldI 0 Tryz.underlying50 rfl rfl fz3 rfl (by assumption)) hs_) ?_
            refine e_fl rfl rfl (fun hs_ => PF.mkg rfl rfl rfl (v_loadI0 ty3 ((hat k hlt).mono Imm.leA) rfl rfl rfl) hs_) ?_
            refine e_fl rfl rfl (fun hs_ => PF.mkg rfl rfl rfl (v_subb rfl rfl rfl (by omega)) hs_) ?_
            by_cases h64 : bs[k].2.head = -1 - bs[k].1
            · refine e_fl rfl rfl (fun hs_ => PF.mkg rfl rfl rfl (v_cmptA rfl rfl rfl) hs_) ?_
              refine e_fl rfl rfl (fun hs_ => PF.mk rfl (v_pickf rfl rfl) hs_) ?_
              refine e_done ?_
              refine post_next ?_
              refine code_cond_t rfl ?_
              refine code_seq ?_
              refine code_region ?_
              refine op_v (v_assign rfl) rfl ?_
              refine ops_nil ?_
              refine post_next ?_
              refine code_ret ?_
              refine post_ret_block ?_
              refine post_ret_then ?_
              refine post_ret_then ?_
              refine post_ret_block ?_
              refine post_ret_then ?_
              refine post_ret (rs := [.tmp 2]) rfl (List.Perm.refl _) (.cons (.tmp rfl) .nil) (List.nil_sublist _) ?_
              exact ⟨⟨false, rfl, by simp only [Bool.false_eq_true, false_iff]; exact hno (by simp [badBi, h64])⟩, rfl⟩
            · refine e_fl rfl rfl (fun hs_ => PF.mkg rfl rfl rfl (v_cmpfA rfl rfl rfl) hs_) ?_
              refine e_fl rfl rfl (fun hs_ => PF.mk rfl (v_pickf rfl rfl) hs_) ?_
              refine e_done ?_
              refine post_next ?_
              refine code_cond_f rfl ?_
              refine code_skip ?_
              refine post_out ?_
              refine post_next ?_
              refine code_region ?_
              refine op_v (v_move rfl) rfl ?_
              refine op_v (v_addb rfl rfl rfl (by omega)) rfl ?_
              refine op_v (v_assign rfl) rfl ?_
              refine ops_nil ?_
              refine post_again (bs.length - (k + 1)) [(0, .slice ad bs.length c), (3, .int .i64 (k + 1 : Nat))] (by omega) ⟨k + 1, rfl, hlt, rfl, Imm.leA, rfl, fun i h hi => ?_⟩ ⟨rfl, rfl, trivial⟩
              rcases Nat.lt_or_ge i k with hik | hik
              · exact hp i h hik
              have hik2 : i = k := by omega
              subst hik2
              refine ⟨by omega, ?_⟩
              have hl2 : ¬ bs[i].1 ≤ (if i = 0 then -1 else (bs.getD (i - 1) (0, zeroT)).1) := by
                by_cases h0 : i = 0
                · rw [if_pos h0]; omega
                · rw [hlast (by omega)]; first | exact h39 | omega
              simp only [badBi, Bool.or_eq_false_iff, decide_eq_false_iff_not]
              exact ⟨hl2, by omega, by omega, by omega⟩
          · rw [show decide (chkT bs[k].2 = 0) = false by simpa using h49]
            refine e_fl rfl rfl (fun hs_ => PF.mkg rfl rfl rfl (v_not rfl) hs_) ?_
            refine e_fl rfl rfl (fun hs_ => PF.mk rfl (v_pickf rfl rfl) hs_) ?_
            refine e_fl rfl rfl (fun hs_ => PF.mk rfl (v_move rfl) hs_) ?_
            refine e_fl rfl rfl (fun hs_ => PF.mks rfl (by intro c hc; cases hc) rfl rfl (by simp [undef]) hs_) ?_
            refine e_fl rfl rfl (fun hs_ => PF.mks rfl (by intro c hc; cases hc) rfl rfl (by simp [undef]) hs_) ?_
            refine e_fl rfl rfl (fun hs_ => PF.mks rfl (by intro c hc; cases hc) rfl rfl (by simp [undef]) hs_) ?_
            refine e_fl rfl rfl (fun hs_ => PF.mks rfl (by intro c hc; cases hc) rfl rfl (by simp [undef]) hs_) ?_
            refine e_fl rfl rfl (fun hs_ => PF.mks rfl (by intro c hc; cases hc) rfl rfl (by simp [undef]) hs_) ?_
            refine e_fl rfl rfl (fun hs_ => PF.mks rfl (by intro c hc; cases hc) rfl rfl (by simp [undef]) hs_) ?_
            refine e_fl rfl rfl (fun hs_ => PF.mks rfl (by intro c hc; cases hc) rfl rfl (by simp [undef]) hs_) ?_
            refine e_fl rfl rfl (fun hs_ => PF.mks rfl (by intro c hc; cases hc) rfl rfl (by simp [undef]) hs_) ?_
            refine e_fl rfl rfl (fun hs_ => PF.mks rfl (by intro c hc; cases hc) rfl rfl (by simp [undef]) hs_) ?_
            refine e_fl rfl rfl (fun hs_ => PF.mks rfl (by intro c hc; cases hc) rfl rfl (by simp [undef]) hs_) ?_
            refine e_fl rfl rfl (fun hs_ => PF.mks rfl (by intro c hc; cases hc) rfl rfl (by simp [undef]) hs_) ?_
            refine e_fl rfl rfl (fun hs_ => PF.mks rfl (by intro c hc; cases hc) rfl rfl (by simp [undef]) hs_) ?_
            refine e_fl rfl rfl (fun hs_ => PF.mks rfl (by intro c hc; cases hc) rfl rfl (by simp [undef]) hs_) ?_
            refine e_fl rfl rfl (fun hs_ => PF.mk rfl (v_pickt rfl rfl) hs_) ?_
            refine e_done ?_
            refine post_next ?_
            refine code_cond_t rfl ?_
            refine code_seq ?_
            refine code_region ?_
            refine op_v (v_assign rfl) rfl ?_
            refine ops_nil ?_
            refine post_next ?_
            refine code_ret ?_
            refine post_ret_block ?_
            refine post_ret_then ?_
            refine post_ret_then ?_
            refine post_ret_block ?_
            refine post_ret_then ?_
            refine post_ret (rs := [.tmp 2]) rfl (List.Perm.refl _) (.cons (.tmp rfl) .nil) (List.nil_sublist _) ?_
            exact ⟨⟨false, rfl, by simp only [Bool.false_eq_true, false_iff]; exact hno (by simp [badBi, h49])⟩, rfl⟩
  · have hge : k = bs.length := by simp at hc0; omega
    refine code_exit ?_
    refine post_exit_then ?_
    refine post_exit_then ?_
    refine post_exit ?_
    refine post_next ?_
    refine code_seq ?_
    refine code_region ?_
    refine op_v (v_assign rfl) rfl ?_
    refine ops_nil ?_
    refine post_next ?_
    refine code_ret ?_
    refine post_ret (rs := [.tmp 2]) rfl (List.Perm.refl _) (.cons (.tmp rfl) .nil) (List.nil_sublist _) ?_
    exact ⟨⟨true, rfl, by simp only [true_iff]; exact fun i h => (hp i h (by omega)).2⟩, rfl⟩
theorem ROf_does {I : Imm} {v : Value} {bs : List Bi} {n : Int} (hv : RepB I v bs) (h0 : 0 ≤ n) (h1 : n ≤ 1000000) :
    Does Tryz.prog 159 [v, .int .i64 n] I [] (fun v I' δ' => RepT I' v ((ofB bs n).getD (.mk (-1 - n) [])) ∧ δ' = []) := by
  obtain ⟨ad, c, rfl⟩ := hv.shape
  obtain ⟨_, hc, hb, hr, ss, hat, hsub⟩ := hv.open
  refine Does.intro Tryz.func159 rfl Tryz.ntmps159 rfl fun w0 => ?_
  refine code_seq ?_
  refine code_region ?_
  refine o_alloc z48 rfl rfl (fun b4 => ?_)
  refine ops_nil ?_
  refine post_next ?_
  refine code_seq ?_
  refine code_seq ?_
  refine code_region ?_
  refine op_v (v_assign rfl) rfl ?_
  refine ops_nil ?_
  refine post_next ?_
  refine code_block ?_
  refine code_loop (fun m σ' I' δ' => ∃ k : Nat, m = bs.length - k ∧ k ≤ bs.length ∧ σ' = [(0, .slice ad bs.length c), (1, .int .i64 n), (4, .pointer (some ⟨b4, 0, none⟩)), (5, .int .i64 k)] ∧ I.le I' ∧ δ' = [.box b4 48 [.int .i64 0, .slice none 0 0]] ∧ ofB bs n = ofB (bs.drop k) n) bs.length [(0, .slice ad bs.length c), (1, .int .i64 n), (4, .pointer (some ⟨b4, 0, none⟩)), (5, .int .i64 (0 : Nat))] ⟨0, rfl, Nat.zero_le _, rfl, Imm.le_refl _, rfl, rfl⟩ ⟨rfl, rfl, rfl, rfl, trivial⟩ ?_
  rintro m _ I0 _ ⟨k, rfl, hk, rfl, hI0, rfl, hp⟩
  refine code_seq ?_
  refine code_seq ?_
  refine code_region ?_
  refine op_v (v_move rfl) rfl ?_
  refine op_v (v_move rfl) rfl ?_
  refine op_v (v_len Tryz.underlying24 rfl) rfl ?_
  refine op_v (v_cmp rfl rfl rfl) rfl ?_
  refine ops_nil ?_
  refine post_next ?_
  refine code_cond rfl (fun hc0 => ?_) (fun hc0 => ?_)
  · have hlt : k < bs.length := by simpa using hc0
    have hs1 := (hat k hlt).isSome
    rw [List.drop_eq_getElem_cons hlt] at hp
    have hq : ofB (bs[k] :: bs.drop (k + 1)) n = if bs[k].1 = n then some bs[k].2 else ofB (bs.drop (k + 1)) n := rfl
    refine code_skip ?_
    refine post_next ?_
    refine code_seq ?_
    refine code_block ?_
    refine code_seq ?_
    refine code_region ?_
    refine op_v (v_move rfl) rfl ?_
    refine op_v (v_move rfl) rfl ?_
    refine op_v (v_indexA Tryz.underlying24 sz50 rfl rfl) rfl ?_
    refine op_v (v_fieldI 0 Tryz.underlying50 rfl rfl fz3 rfl (by assumption)) rfl ?_
    refine op_v (v_loadI0 ty3 ((hat k hlt).mono hI0) rfl rfl rfl) rfl ?_
    refine op_v (v_move rfl) rfl ?_
    by_cases h18 : bs[k].1 = n
    · refine op_v (v_cmptA rfl rfl rfl) rfl ?_
      refine ops_nil ?_
      refine post_next ?_
      refine code_cond_t rfl ?_
      refine code_seq ?_
      refine code_region ?_
      refine op_v (v_move rfl) rfl ?_
      refine op_v (v_move rfl) rfl ?_
      refine op_v (v_indexA Tryz.underlying24 sz50 rfl rfl) rfl ?_
      refine op_v (v_fieldI 1 Tryz.underlying50 rfl rfl fz48 rfl (by assumption)) rfl ?_
      refine op_v (v_loadI ty48 ((hat k hlt).mono hI0) rfl rfl rfl) rfl ?_
      refine o_store ty48 rfl rfl rfl rfl rfl (by repeat (first | exact Swap.here | apply Swap.there)) rfl ?_
      refine ops_nil ?_
      refine post_next ?_
      refine code_ret ?_
      refine post_ret_block ?_
      refine post_ret_then ?_
      refine post_ret_then ?_
      refine post_ret_block ?_
      refine post_ret_then ?_
      refine post_ret (rs := [.cell 4 48]) rfl (List.Perm.refl _) (.cons (.cell rfl ty48 (by repeat (first | exact Has.here | apply Has.there)) rfl) .nil) (List.nil_sublist _) ?_
      exact ⟨by rw [hp, hq, if_pos h18]; exact (hsub k hlt).mono Imm.leA, rfl⟩
    · refine op_v (v_cmpfA rfl rfl rfl) rfl ?_
      refine ops_nil ?_
      refine post_next ?_
      refine code_cond_f rfl ?_
      refine code_skip ?_
      refine post_out ?_
      refine post_next ?_
      refine code_region ?_
      refine op_v (v_move rfl) rfl ?_
      refine op_v (v_addb rfl rfl rfl (by omega)) rfl ?_
      refine op_v (v_assign rfl) rfl ?_
      refine ops_nil ?_
      refine post_again (bs.length - (k + 1)) [(0, .slice ad bs.length c), (1, .int .i64 n), (4, .pointer (some ⟨b4, 0, none⟩)), (5, .int .i64 (k + 1 : Nat))] (by omega) ⟨k + 1, rfl, hlt, rfl, Imm.leA, rfl, by rw [hp, hq, if_neg h18]⟩ ⟨rfl, rfl, rfl, rfl, trivial⟩
  · have hge : k = bs.length := by simp at hc0; omega
    rw [hge, List.drop_length] at hp
    refine code_exit ?_
    refine post_exit_then ?_
    refine post_exit_then ?_
    refine post_exit ?_
    refine post_next ?_
    refine code_seq ?_
    refine code_region ?_
    refine op_v (v_move rfl) rfl ?_
    refine op_call pl59 rfl rfl ((Var_does (by omega) (by omega))) Parts.none ?_
    rintro v25 I25 _ hI25 ⟨hv25, rfl⟩
    obtain ⟨a25, c25, rfl, _⟩ := hv25.shape
    refine o_store ty48 rfl rfl rfl rfl rfl (by repeat (first | exact Swap.here | apply Swap.there)) rfl ?_
    refine ops_nil ?_
    refine post_next ?_
    refine code_ret ?_
    refine post_ret (rs := [.cell 4 48]) rfl (List.Perm.refl _) (.cons (.cell rfl ty48 (by repeat (first | exact Has.here | apply Has.there)) rfl) .nil) (List.nil_sublist _) ?_
    exact ⟨by rw [hp]; exact hv25, rfl⟩
theorem chk_head9 {h : Int} {ts : List T} (hc : chkT (.mk h ts) = 0) : -256 ≤ h := (chk_vis hc (true, .mk h ts) (by rw [visT_eq]; exact List.mem_cons_self ..)).2
theorem RPut_does {bs : List Bi} : ∀ (n : Nat) (t : T), t.size ≤ n → chkT t = 0 → ∀ (I : Imm) (vs v : Value), RepB I vs bs → RepT I v t →
    Does Tryz.prog 132 [vs, v] I [] (fun v I' δ' => RepT I' v (sbT bs t) ∧ δ' = []) := by
  intro n
  induction n with
  | zero => intro t ht; have := t.size_pos; omega
  | succ n ih =>
    intro t ht hck I vs v hs hv
    obtain ⟨h, ts⟩ := t
    obtain ⟨sa, sc, rfl⟩ := hs.shape
    obtain ⟨ad, c, ss, rfl, hr, hc, hb, hat, hsub⟩ := hv.elim
    have hsz : (T.mk h ts).size = 1 + sizeL ts := by simp [T.size]
    obtain ⟨hlf, hch⟩ := chkT_args hck
    have hh := chk_head9 hck
    refine Does.intro Tryz.func132 rfl Tryz.ntmps132 rfl fun w0 => ?_
    refine code_seq ?_
    refine code_region ?_
    refine o_box rfl rfl rfl (fun b3 => ?_)
    refine o_alloc z48 rfl rfl (fun b4 => ?_)
    refine ops_nil ?_
    refine post_next ?_
    refine code_seq ?_
    refine code_seq ?_
    refine code_region ?_
    refine op_v (v_fieldB 0 Tryz.underlying48 rfl rfl fz3 rfl) rfl ?_
    refine op_v (v_loadA ty3 rfl rfl) rfl ?_
    by_cases hneg : h < 0
    · refine op_v (v_cmptA rfl rfl rfl) rfl ?_
      refine ops_nil ?_
      refine post_next ?_
      refine code_cond_t rfl ?_
      refine code_seq ?_
      refine code_region ?_
      refine op_v (v_move rfl) rfl ?_
      refine op_v (v_fieldB 0 Tryz.underlying48 rfl rfl fz3 rfl) rfl ?_
      refine op_v (v_loadA ty3 rfl rfl) rfl ?_
      refine op_v (v_subb rfl rfl rfl (by omega)) rfl ?_
      refine op_call pl159 rfl rfl ((ROf_does (n := -1 - h) (hs.mono Imm.leA) (by omega) (by omega))) Parts.none ?_
      rintro v14 I14 _ hI14 ⟨hv14, rfl⟩
      rw [show -1 - (-1 - h) = h by omega] at hv14
      obtain ⟨a14, c14, rfl, _⟩ := hv14.shape
      refine o_store ty48 rfl rfl rfl rfl rfl (by repeat (first | exact Swap.here | apply Swap.there)) rfl ?_
      refine ops_nil ?_
      refine post_next ?_
      refine code_ret ?_
      refine post_ret_then ?_
      refine post_ret (rs := [.cell 4 48]) rfl (List.Perm.refl _) (.cons (.cell rfl ty48 (by repeat (first | exact Has.here | apply Has.there)) rfl) .nil) (List.nil_sublist _) ?_
      have hl := hlf hneg
      subst hl
      exact ⟨by unfold sbT; simp only [rbT]; rw [if_pos hneg]; unfold ofT; exact hv14, rfl⟩
    · refine op_v (v_cmpfA rfl rfl rfl) rfl ?_
      refine ops_nil ?_
      refine post_next ?_
      refine code_cond_f rfl ?_
      refine code_skip ?_
      refine post_next ?_
      refine code_seq ?_
      refine code_region ?_
      refine op_v (v_fieldB 0 Tryz.underlying48 rfl rfl fz3 rfl) rfl ?_
      refine op_v (v_loadA ty3 rfl rfl) rfl ?_
      refine op_v (v_build bl48 rfl rfl) rfl ?_
      refine o_alloc z48 rfl rfl (fun b5 => ?_)
      refine o_store ty48 rfl rfl rfl rfl rfl (by repeat (first | exact Swap.here | apply Swap.there)) rfl ?_
      refine ops_nil ?_
      refine post_next ?_
      refine code_seq ?_
      refine code_seq ?_
      refine code_region ?_
      refine op_v (v_assign rfl) rfl ?_
      refine ops_nil ?_
      refine post_next ?_
      refine code_block ?_
      refine CodeJ.view (View.nilRow 48 2) ?_
      refine code_loop (fun m σ' I' δ' => ∃ (k : Nat) (ar : Option Addr) (cr : Nat) (xs : List Value), m = ts.length - k ∧ k ≤ ts.length ∧ σ' = [(0, .slice sa bs.length sc), (3, .pointer (some ⟨b3, 0, none⟩)), (4, .pointer (some ⟨b4, 0, none⟩)), (5, .pointer (some ⟨b5, 0, none⟩)), (6, .int .i64 k)] ∧ I.le I' ∧ δ' = [.row (.slice ar k cr) 48 2 k xs, .box b5 48 [.int .i64 h, .slice ar k cr], .box b4 48 [.int .i64 0, .slice none 0 0], .box b3 48 [.int .i64 h, .slice ad ts.length c]] ∧ RowT I' xs (rbL (ofT bs) (ts.take k))) ts.length [(0, .slice sa bs.length sc), (3, .pointer (some ⟨b3, 0, none⟩)), (4, .pointer (some ⟨b4, 0, none⟩)), (5, .pointer (some ⟨b5, 0, none⟩)), (6, .int .i64 (0 : Nat))] ⟨0, none, 0, [], rfl, Nat.zero_le _, rfl, Imm.le_refl _, rfl, RowT.nil _⟩ ⟨rfl, rfl, rfl, rfl, rfl, trivial⟩ ?_
      rintro m _ I0 _ ⟨k, ar, cr, xs, rfl, hk, rfl, hI0, rfl, hp⟩
      refine code_seq ?_
      refine code_seq ?_
      refine code_region ?_
      refine op_v (v_move rfl) rfl ?_
      refine op_v (v_fieldB 1 Tryz.underlying48 rfl rfl fz46 rfl) rfl ?_
      refine op_v (v_loadA ty46 rfl rfl) rfl ?_
      refine op_v (v_len Tryz.underlying46 rfl) rfl ?_
      refine op_v (v_cmp rfl rfl rfl) rfl ?_
      refine ops_nil ?_
      refine post_next ?_
      refine code_cond rfl (fun hc1 => ?_) (fun hc1 => ?_)
      · have hlt : k < ts.length := by simpa using hc1
        have hs1 := (hat k hlt).isSome
        have hm := sizeL_mem ts k hlt
        refine code_skip ?_
        refine post_next ?_
        refine code_seq ?_
        refine code_block ?_
        refine code_draw (.fl 0 (.fl 1 (.fl 2 (.fl 3 (.fl 4 (.fl 5 (.fl 6 (.fl 7 (.ef 8 (.ef 9 (.ef 10 (.fl 11 (.ef 12 .done))))))))))))) (fun _ => [.box b5 48 [.int .i64 h, .slice ar k cr], .box b4 48 [.int .i64 0, .slice none 0 0], .box b3 48 [.int .i64 h, .slice ad ts.length c]]) mixed (by kernel_rfl) (by kernel_rfl) (fun _ => (List.Sublist.cons _ (List.Sublist.refl _))) ?_
        refine e_fl rfl rfl (fun hs_ => PF.mk rfl (v_fieldB 1 Tryz.underlying48 rfl rfl fz46 rfl) hs_) ?_
        refine e_fl rfl rfl (fun hs_ => PF.mk rfl (v_loadA ty46 rfl rfl) hs_) ?_
        refine e_fl rfl rfl (fun hs_ => PF.mk rfl (v_move rfl) hs_) ?_
        refine e_fl rfl rfl (fun hs_ => PF.mk rfl (v_fieldB 1 Tryz.underlying48 rfl rfl fz46 rfl) hs_) ?_
        refine e_fl rfl rfl (fun hs_ => PF.mk rfl (v_loadA ty46 rfl rfl) hs_) ?_
        refine e_fl rfl rfl (fun hs_ => PF.mk rfl (v_move rfl) hs_) ?_
        refine e_fl rfl rfl (fun hs_ => PF.mk rfl (v_indexA Tryz.underlying46 sz48 rfl rfl) hs_) ?_
        refine e_fl rfl rfl (fun hs_ => PF.mk rfl (v_loadI0 ty48 ((hat k hlt).mono hI0) rfl rfl rfl) hs_) ?_
        refine e_eff rfl (by intro cs b hc; cases hc) (by intro c hc; cases hc) ?_
        refine op_call pl132 rfl rfl ((ih ts[k] (by omega) (hch k hlt) _ _ _ (hs.mono hI0) ((hsub k hlt).mono hI0))) Parts.none ?_
        rintro v33 I33 _ hI33 ⟨hv33, rfl⟩
        obtain ⟨p33, q33, rfl, _⟩ := hv33.shape
        refine ops_nil ?_
        refine e_next rfl side_allA ?_
        refine e_eff rfl (by intro cs b hc; cases hc) (by intro c hc; cases hc) ?_
        refine o_buildSlice (xs := [(Go.Operand.tmp 33)]) Tryz.underlying46 bs48 rfl rfl rfl rfl rfl (fun b34 => ?_)
        refine ops_nil ?_
        refine e_next rfl side_allA ?_
        refine e_eff rfl (by intro cs b hc; cases hc) (by intro c hc; cases hc) ?_
        refine o_append Tryz.underlying46 bs48 rfl rfl rfl (fun v' => by repeat (first | exact Swap.here | apply Swap.there)) (Src.ofRow (by repeat (first | exact Has.here | apply Has.there)) rfl) (by first | rfl | omega | simp) (by simp [cat, cellsL, Value.oneCell']) (by omega) (by omega) (fun a35 c35 => ?_)
        refine ops_nil ?_
        refine e_next rfl side_allA ?_
        refine e_fl rfl rfl (fun hs_ => PF.mk rfl (v_fieldB 1 Tryz.underlying48 rfl rfl fz46 rfl) hs_) ?_
        refine e_eff rfl (by intro cs b hc; cases hc) (by intro c hc; cases hc) ?_
        refine o_store ty46 rfl rfl rfl rfl rfl (by repeat (first | exact Swap.here | apply Swap.there)) rfl ?_
        refine ops_nil ?_
        refine e_next_ (side_nil (by kernel_rfl)) ?_
        refine e_done ?_
        refine post_out ?_
        refine post_next ?_
        refine code_region ?_
        refine op_v (v_move rfl) rfl ?_
        refine op_v (v_addb rfl rfl rfl (by omega)) rfl ?_
        refine op_v (v_assign rfl) rfl ?_
        refine ops_nil ?_
        refine PostJ.view (View.drop Del.here) ?_
        refine post_again (ts.length - (k + 1)) [(0, .slice sa bs.length sc), (3, .pointer (some ⟨b3, 0, none⟩)), (4, .pointer (some ⟨b4, 0, none⟩)), (5, .pointer (some ⟨b5, 0, none⟩)), (6, .int .i64 ((k + 1 : Nat) : Int))] (by omega) ⟨k + 1, a35, c35, xs ++ [.int .i64 (sbT bs ts[k]).head, .slice p33 (sbT bs ts[k]).args.length q33], rfl, hlt, rfl, Imm.le_trans hI0 hI33, rfl, ?_⟩ ⟨rfl, rfl, rfl, rfl, rfl, trivial⟩
        rw [rbL_take (ofT bs) ts k hlt]
        exact (hp.mono hI33).app (RowT.one hv33)
      · have hge : k = ts.length := by simp at hc1; omega
        subst hge
        rw [List.take_length] at hp
        refine code_exit ?_
        refine post_exit_then ?_
        refine post_exit_then ?_
        refine post_exit ?_
        refine post_next ?_
        refine code_seq ?_
        refine code_region ?_
        refine OpsJ.freezeRow Del.here ?_
        rintro I37 ar2 cr2 hI37 hvr hcr hlr hcells
        cases hvr
        refine op_v (v_loadA ty48 rfl rfl) rfl ?_
        refine o_store ty48 rfl rfl rfl rfl rfl (by repeat (first | exact Swap.here | apply Swap.there)) rfl ?_
        refine ops_nil ?_
        refine post_next ?_
        refine code_ret ?_
        refine post_ret (rs := [.cell 4 48]) rfl (List.Perm.refl _) (.cons (.cell rfl ty48 (by repeat (first | exact Has.here | apply Has.there)) rfl) .nil) (List.nil_sublist _) ?_
        exact ⟨by unfold sbT; simp only [rbT]; rw [if_neg hneg]; have hl := rbL_len (ofT bs) ts; have := RowT.rep (h := h) hcells (hp.mono hI37) hr (by rw [hl]; exact hcr) (by rw [hl]; exact hb); rw [hl] at this; exact this, rfl⟩
theorem Rend_does {I : Imm} {v : Value} {t : T} (hv : RepT I v t) (hbig : t.size ≤ 1000000000) :
    Does Tryz.prog 102 [v] I [] (fun v I' δ' => (∃ u, v = .tuple #[u, .int .i64 (chkT t)] ∧ RepT I' u (if chkT t = 0 then t else zeroT)) ∧ δ' = []) := by
  obtain ⟨a0, c0, rfl, hr0⟩ := hv.shape
  refine Does.intro Tryz.func102 rfl Tryz.ntmps102 rfl fun w0 => ?_
  refine code_seq ?_
  refine code_region ?_
  refine o_box rfl rfl rfl (fun b1 => ?_)
  refine o_alloc z48 rfl rfl (fun b2 => ?_)
  refine op_v (v_assign rfl) rfl ?_
  refine ops_nil ?_
  refine post_next ?_
  refine code_seq ?_
  refine code_region ?_
  refine op_v (v_loadA ty48 rfl rfl) rfl ?_
  refine op_call pl133 rfl rfl ((RCheck_does (hv.mono Imm.leA) hbig)) Parts.none ?_
  rintro _ I6 _ hI6 ⟨rfl, rfl⟩
  refine op_v (v_assign rfl) rfl ?_
  refine ops_nil ?_
  refine post_next ?_
  refine code_seq ?_
  refine code_seq ?_
  refine code_region ?_
  refine op_v (v_move rfl) rfl ?_
  by_cases h8 : chkT t ≠ 0
  · refine op_v (v_cmptA rfl rfl rfl) rfl ?_
    refine ops_nil ?_
    refine post_next ?_
    refine code_cond_t rfl ?_
    refine code_seq ?_
    refine code_region ?_
    refine op_v (v_build bl48 rfl rfl) rfl ?_
    refine op_v (v_move rfl) rfl ?_
    refine o_store ty48 rfl rfl rfl rfl rfl (by repeat (first | exact Swap.here | apply Swap.there)) rfl ?_
    refine op_v (v_assign rfl) rfl ?_
    refine ops_nil ?_
    refine post_next ?_
    refine code_ret ?_
    refine post_ret_then ?_
    refine post_ret (rs := [.cell 2 48, .tmp 3]) rfl (List.Perm.refl _) (.cons (.cell rfl ty48 (by repeat (first | exact Has.here | apply Has.there)) rfl) (.cons (.tmp rfl) .nil)) (List.nil_sublist _) ?_
    exact ⟨⟨_, rfl, by rw [if_neg h8]; exact zeroT_rep _⟩, rfl⟩
  · refine op_v (v_cmpfA rfl rfl rfl) rfl ?_
    refine ops_nil ?_
    refine post_next ?_
    refine code_cond_f rfl ?_
    refine code_skip ?_
    refine post_next ?_
    refine code_seq ?_
    refine code_region ?_
    refine op_v (v_loadA ty48 rfl rfl) rfl ?_
    refine o_store ty48 rfl rfl rfl rfl rfl (by repeat (first | exact Swap.here | apply Swap.there)) rfl ?_
    refine op_v (v_assign rfl) rfl ?_
    refine ops_nil ?_
    refine post_next ?_
    refine code_ret ?_
    refine post_ret (rs := [.cell 2 48, .tmp 3]) rfl (List.Perm.refl _) (.cons (.cell rfl ty48 (by repeat (first | exact Has.here | apply Has.there)) rfl) (.cons (.tmp rfl) .nil)) (List.nil_sublist _) ?_
    have h0 : chkT t = 0 := by omega
    exact ⟨⟨_, by rw [h0]; rfl, by rw [if_pos h0]; exact hv.mono Imm.leA⟩, rfl⟩
theorem RApplyE_does {I : Imm} {vs v : Value} {bs : List Bi} {t : T} (hs : RepB I vs bs) (hv : RepT I v t) (hbs : ∀ b ∈ bs, b.2.size ≤ 500) (ht : t.size ≤ 500) :
    Does Tryz.prog 122 [vs, v] I [] (fun v I' δ' => (∃ e u r, v = .tuple #[r, .int .i64 e] ∧ RepT I' r u ∧ OutE bs t e u) ∧ δ' = []) := by
  obtain ⟨a0, c0, rfl, hr0⟩ := hv.shape
  obtain ⟨sa, sc, rfl⟩ := hs.shape
  have hsz : (sbT bs t).size ≤ 1000000000 := by have := sbT_size (m := 500) (by omega) hbs t; omega
  refine Does.intro Tryz.func122 rfl Tryz.ntmps122 rfl fun w0 => ?_
  refine code_seq ?_
  refine code_region ?_
  refine o_box rfl rfl rfl (fun b3 => ?_)
  refine o_alloc z48 rfl rfl (fun b4 => ?_)
  refine op_v (v_assign rfl) rfl ?_
  refine ops_nil ?_
  refine post_next ?_
  refine code_seq ?_
  refine code_seq ?_
  refine code_region ?_
  refine op_v (v_move rfl) rfl ?_
  refine op_call pl148 rfl rfl ((RRight3_does (hs.mono Imm.leA) (fun b hb => by have := hbs b hb; omega))) Parts.none ?_
  rintro v9 I9 _ hI9 ⟨⟨b9, rfl, hb9⟩, rfl⟩
  by_cases h10 : b9 = true
  · subst h10
    have hcb : chkB bs := hb9.1 rfl
    refine op_v (v_not rfl) rfl ?_
    refine op_v (v_move rfl) rfl ?_
    refine op_want rfl rfl ?_
    refine op_v (v_loadA ty48 rfl rfl) rfl ?_
    refine op_want rfl rfl ?_
    refine op_call pl100 rfl rfl ((RRight1_does (hv.mono Imm.leA) (by omega))) Parts.none ?_
    rintro v13 I13 _ hI13 ⟨rfl, rfl⟩
    by_cases h14 : chkT t = 0
    · rw [show decide (chkT t = 0) = true by simpa using h14]
      refine op_want rfl rfl ?_
      refine op_v (v_not rfl) rfl ?_
      refine op_v (v_pickf rfl rfl) rfl ?_
      refine ops_nil ?_
      refine post_next ?_
      refine code_cond_f rfl ?_
      refine code_skip ?_
      refine post_next ?_
      refine code_seq ?_
      refine code_region ?_
      refine op_v (v_move rfl) rfl ?_
      refine op_v (v_loadA ty48 rfl rfl) rfl ?_
      refine op_call pl132 rfl rfl ((RPut_does _ _ (Nat.le_refl _) h14 _ _ _ (hs.mono Imm.leA) (hv.mono Imm.leA))) Parts.none ?_
      rintro v20 I20 _ hI20 ⟨hv20, rfl⟩
      refine op_call pl102 rfl rfl ((Rend_does hv20 hsz)) Parts.none ?_
      rintro v21 I21 _ hI21 ⟨⟨u21, rfl, hv21⟩, rfl⟩
      obtain ⟨a21, c21, rfl, _⟩ := hv21.shape
      refine op_v (v_move rfl) rfl ?_
      refine op_v (v_extract rfl rfl) rfl ?_
      refine op_v (v_extract rfl rfl) rfl ?_
      refine o_alloc z48 rfl rfl (fun b6 => ?_)
      refine o_store ty48 rfl rfl rfl rfl rfl (by repeat (first | exact Swap.here | apply Swap.there)) rfl ?_
      refine op_v (v_assign rfl) rfl ?_
      refine ops_nil ?_
      refine post_next ?_
      refine code_seq ?_
      refine code_region ?_
      refine op_v (v_loadA ty48 rfl rfl) rfl ?_
      refine op_v (v_move rfl) rfl ?_
      refine o_store ty48 rfl rfl rfl rfl rfl (by repeat (first | exact Swap.here | apply Swap.there)) rfl ?_
      refine op_v (v_assign rfl) rfl ?_
      refine ops_nil ?_
      refine post_next ?_
      refine code_ret ?_
      refine post_ret (rs := [.cell 4 48, .tmp 5]) rfl (List.Perm.refl _) (.cons (.cell rfl ty48 (by repeat (first | exact Has.here | apply Has.there)) rfl) (.cons (.tmp rfl) .nil)) (List.nil_sublist _) ?_
      exact ⟨⟨chkT (sbT bs t), _, _, rfl, hv21, .inl ⟨⟨hcb, h14⟩, rfl, rfl⟩⟩, rfl⟩
    · rw [show decide (chkT t = 0) = false by simpa using h14]
      refine op_want rfl rfl ?_
      refine op_v (v_not rfl) rfl ?_
      refine op_v (v_pickf rfl rfl) rfl ?_
      refine ops_nil ?_
      refine post_next ?_
      refine code_cond_t rfl ?_
      refine code_seq ?_
      refine code_region ?_
      refine op_v (v_build bl48 rfl rfl) rfl ?_
      refine o_store ty48 rfl rfl rfl rfl rfl (by repeat (first | exact Swap.here | apply Swap.there)) rfl ?_
      refine op_v (v_assign rfl) rfl ?_
      refine ops_nil ?_
      refine post_next ?_
      refine code_ret ?_
      refine post_ret_then ?_
      refine post_ret (rs := [.cell 4 48, .tmp 5]) rfl (List.Perm.refl _) (.cons (.cell rfl ty48 (by repeat (first | exact Has.here | apply Has.there)) rfl) (.cons (.tmp rfl) .nil)) (List.nil_sublist _) ?_
      exact ⟨⟨1, zeroT, _, rfl, zeroT_rep _, .inr ⟨fun hh => h14 hh.2, rfl, rfl⟩⟩, rfl⟩
  · have h10' : b9 = false := by simpa using h10
    subst h10'
    have hcb : ¬ chkB bs := fun hq => by have := hb9.2 hq; cases this
    refine op_v (v_not rfl) rfl ?_
    refine op_v (v_move rfl) rfl ?_
    refine op_skip rfl rfl (by simp [undef]) rfl ?_
    refine op_skip rfl rfl (by simp [undef]) rfl ?_
    refine op_skip rfl rfl (by simp [undef]) rfl ?_
    refine op_v (v_pickt rfl rfl) rfl ?_
    refine ops_nil ?_
    refine post_next ?_
    refine code_cond_t rfl ?_
    refine code_seq ?_
    refine code_region ?_
    refine op_v (v_build bl48 rfl rfl) rfl ?_
    refine o_store ty48 rfl rfl rfl rfl rfl (by repeat (first | exact Swap.here | apply Swap.there)) rfl ?_
    refine op_v (v_assign rfl) rfl ?_
    refine ops_nil ?_
    refine post_next ?_
    refine code_ret ?_
    refine post_ret_then ?_
    refine post_ret (rs := [.cell 4 48, .tmp 5]) rfl (List.Perm.refl _) (.cons (.cell rfl ty48 (by repeat (first | exact Has.here | apply Has.there)) rfl) (.cons (.tmp rfl) .nil)) (List.nil_sublist _) ?_
    exact ⟨⟨1, zeroT, _, rfl, zeroT_rep _, .inr ⟨fun hh => hcb hh.1, rfl, rfl⟩⟩, rfl⟩
theorem RLApply_does {I : Imm} {vs va : Value} {bs : List Bi} {x : Li} (hs : RepB I vs bs) (ha : RepL I va x) (hbs : ∀ b ∈ bs, b.2.size ≤ 500) (h1 : x.l.size ≤ 500) (h2 : x.r.size ≤ 500) :
    Does Tryz.prog 79 [vs, va] I [] (fun v I' δ' => (∃ e y r, v = .tuple #[r, .int .i64 e] ∧ RepL I' r y ∧ OutL bs x e y) ∧ δ' = []) := by
  obtain ⟨la, lc, ra, rc, rfl, hl, hr⟩ := ha
  obtain ⟨sa, sc, rfl⟩ := hs.shape
  refine Does.intro Tryz.func79 rfl Tryz.ntmps79 rfl fun w0 => ?_
  refine code_seq ?_
  refine code_region ?_
  refine o_box rfl rfl rfl (fun b3 => ?_)
  refine o_alloc z59 rfl rfl (fun b4 => ?_)
  refine op_v (v_assign rfl) rfl ?_
  refine ops_nil ?_
  refine post_next ?_
  refine code_seq ?_
  refine code_region ?_
  refine op_v (v_move rfl) rfl ?_
  refine op_v (v_fieldB 1 Tryz.underlying59 rfl rfl fz48 rfl) rfl ?_
  refine op_v (v_loadA ty48 rfl rfl) rfl ?_
  refine op_call pl122 rfl rfl ((RApplyE_does (hs.mono Imm.leA) (hl.mono Imm.leA) hbs h1)) Parts.none ?_
  rintro v14 I14 _ hI14 ⟨⟨e1, u1, r1, rfl, hr1, ho1⟩, rfl⟩
  obtain ⟨ua, uc, rfl, _⟩ := hr1.shape
  refine op_v (v_move rfl) rfl ?_
  refine op_v (v_extract rfl rfl) rfl ?_
  refine op_v (v_extract rfl rfl) rfl ?_
  refine o_alloc z48 rfl rfl (fun b6 => ?_)
  refine o_store ty48 rfl rfl rfl rfl rfl (by repeat (first | exact Swap.here | apply Swap.there)) rfl ?_
  refine op_v (v_assign rfl) rfl ?_
  refine ops_nil ?_
  refine post_next ?_
  refine code_seq ?_
  refine code_seq ?_
  refine code_region ?_
  refine op_v (v_move rfl) rfl ?_
  by_cases q1 : e1 ≠ 0
  · refine op_v (v_cmptA rfl rfl rfl) rfl ?_
    refine ops_nil ?_
    refine post_next ?_
    refine code_cond_t rfl ?_
    refine code_seq ?_
    refine code_region ?_
    refine op_v (v_build bl59 rfl rfl) rfl ?_
    refine op_v (v_move rfl) rfl ?_
    refine o_store ty59 rfl rfl rfl rfl rfl (by repeat (first | exact Swap.here | apply Swap.there)) rfl ?_
    refine op_v (v_assign rfl) rfl ?_
    refine ops_nil ?_
    refine post_next ?_
    refine code_ret ?_
    refine post_ret_then ?_
    refine post_ret (rs := [.cell 4 59, .tmp 5]) rfl (List.Perm.refl _) (.cons (.cell rfl ty59 (by repeat (first | exact Has.here | apply Has.there)) rfl) (.cons (.tmp rfl) .nil)) (List.nil_sublist _) ?_
    exact ⟨⟨e1, zeroLi, _, rfl, ⟨none, 0, none, 0, rfl, zeroT_rep _, zeroT_rep _⟩, e1, u1, ho1, .inl ⟨q1, rfl, rfl⟩⟩, rfl⟩
  · refine op_v (v_cmpfA rfl rfl rfl) rfl ?_
    refine ops_nil ?_
    refine post_next ?_
    refine code_cond_f rfl ?_
    refine code_skip ?_
    refine post_next ?_
    refine code_seq ?_
    refine code_region ?_
    refine op_v (v_move rfl) rfl ?_
    refine op_v (v_fieldB 3 Tryz.underlying59 rfl rfl fz48 rfl) rfl ?_
    refine op_v (v_loadA ty48 rfl rfl) rfl ?_
    refine op_call pl122 rfl rfl ((RApplyE_does (hs.mono Imm.leA) (hr.mono Imm.leA) hbs h2)) Parts.none ?_
    rintro v25 I25 _ hI25 ⟨⟨e2, u2, r2, rfl, hr2, ho2⟩, rfl⟩
    obtain ⟨wa, wc, rfl, _⟩ := hr2.shape
    refine op_v (v_move rfl) rfl ?_
    refine op_v (v_extract rfl rfl) rfl ?_
    refine op_v (v_extract rfl rfl) rfl ?_
    refine o_alloc z48 rfl rfl (fun b8 => ?_)
    refine o_store ty48 rfl rfl rfl rfl rfl (by repeat (first | exact Swap.here | apply Swap.there)) rfl ?_
    refine op_v (v_assign rfl) rfl ?_
    refine ops_nil ?_
    refine post_next ?_
    refine code_seq ?_
    refine code_seq ?_
    refine code_region ?_
    refine op_v (v_move rfl) rfl ?_
    by_cases q2 : e2 ≠ 0
    · refine op_v (v_cmptA rfl rfl rfl) rfl ?_
      refine ops_nil ?_
      refine post_next ?_
      refine code_cond_t rfl ?_
      refine code_seq ?_
      refine code_region ?_
      refine op_v (v_build bl59 rfl rfl) rfl ?_
      refine op_v (v_move rfl) rfl ?_
      refine o_store ty59 rfl rfl rfl rfl rfl (by repeat (first | exact Swap.here | apply Swap.there)) rfl ?_
      refine op_v (v_assign rfl) rfl ?_
      refine ops_nil ?_
      refine post_next ?_
      refine code_ret ?_
      refine post_ret_then ?_
      refine post_ret (rs := [.cell 4 59, .tmp 5]) rfl (List.Perm.refl _) (.cons (.cell rfl ty59 (by repeat (first | exact Has.here | apply Has.there)) rfl) (.cons (.tmp rfl) .nil)) (List.nil_sublist _) ?_
      exact ⟨⟨e2, zeroLi, _, rfl, ⟨none, 0, none, 0, rfl, zeroT_rep _, zeroT_rep _⟩, e1, u1, ho1, .inr ⟨by omega, e2, u2, ho2, .inl ⟨q2, rfl, rfl⟩⟩⟩, rfl⟩
    · refine op_v (v_cmpfA rfl rfl rfl) rfl ?_
      refine ops_nil ?_
      refine post_next ?_
      refine code_cond_f rfl ?_
      refine code_skip ?_
      refine post_next ?_
      refine code_seq ?_
      refine code_region ?_
      refine op_v (v_fieldB 0 Tryz.underlying59 rfl rfl fz4 rfl) rfl ?_
      refine op_v (v_loadA ty4 rfl rfl) rfl ?_
      refine op_v (v_loadA ty48 rfl rfl) rfl ?_
      refine op_v (v_loadA ty48 rfl rfl) rfl ?_
      refine op_v (v_build bl59 rfl rfl) rfl ?_
      refine o_store ty59 rfl rfl rfl rfl rfl (by repeat (first | exact Swap.here | apply Swap.there)) rfl ?_
      refine op_v (v_assign rfl) rfl ?_
      refine ops_nil ?_
      refine post_next ?_
      refine code_ret ?_
      refine post_ret (rs := [.cell 4 59, .tmp 5]) rfl (List.Perm.refl _) (.cons (.cell rfl ty59 (by repeat (first | exact Has.here | apply Has.there)) rfl) (.cons (.tmp rfl) .nil)) (List.nil_sublist _) ?_
      exact ⟨⟨0, ⟨x.neg, u1, u2⟩, _, rfl, ⟨ua, uc, wa, wc, rfl, hr1.mono Imm.leA, hr2.mono Imm.leA⟩, e1, u1, ho1, .inr ⟨by omega, e2, u2, ho2, .inr ⟨by omega, rfl, rfl⟩⟩⟩, rfl⟩
end Go.Proofs.YtdbadicpbmndbaaGreat
/- Walks: the document's answers on clauses and maximal literals. -/
set_option linter.unusedVariables false
set_option linter.unusedSimpArgs false
set_option linter.unnecessarySimpa false
/- short -/
namespace Go.Proofs.YtdbadicpbmndbaaGreat
open Go Lg

theorem RCheck10_does {I : Imm} {vg v : Value} {gs : List Sy} {c : List Li} (hg : RepG I vg gs) (hv : RepC I v c) (hs : SmC c) :
    Does Tryz.prog 27 [vg, v] I [] (fun v I' δ' => v = .int .i64 (chkC gs c) ∧ δ' = []) := by
  obtain ⟨ad, c0, xs, rfl, hc, hb, hcells, hrow⟩ := hv
  refine Does.intro Tryz.func27 rfl Tryz.ntmps27 rfl fun w0 => ?_
  refine code_seq ?_
  refine code_region ?_
  refine op_v (v_assign rfl) rfl ?_
  refine ops_nil ?_
  refine post_next ?_
  refine code_seq ?_
  refine code_seq ?_
  refine code_region ?_
  refine op_v (v_move rfl) rfl ?_
  refine op_call pl70 rfl rfl ((RightR_does hg)) Parts.none ?_
  rintro v8 I8 _ hI8 ⟨rfl, rfl⟩
  by_cases h9 : rightG gs = true
  · rw [h9]
    have hck0 : chkG gs = 0 := if_pos h9
    refine op_v (v_not rfl) rfl ?_
    refine ops_nil ?_
    refine post_next ?_
    refine code_cond_f rfl ?_
    refine code_skip ?_
    refine post_next ?_
    refine code_seq ?_
    refine code_seq ?_
    refine code_region ?_
    refine op_v (v_move rfl) rfl ?_
    refine op_v (v_len Tryz.underlying23 rfl) rfl ?_
    by_cases h12 : 32 < c.length
    · refine op_v (v_cmpt rfl rfl rfl (by omega)) rfl ?_
      refine ops_nil ?_
      refine post_next ?_
      refine code_cond_t rfl ?_
      refine code_seq ?_
      refine code_region ?_
      refine op_v (v_assign rfl) rfl ?_
      refine ops_nil ?_
      refine post_next ?_
      refine code_ret ?_
      refine post_ret_then ?_
      refine post_ret (rs := [.tmp 4]) rfl (List.Perm.refl _) (.cons (.tmp rfl) .nil) (List.nil_sublist _) ?_
      exact ⟨by unfold chkC; rw [if_neg (by rw [hck0]; simp), if_pos h12]; rfl, rfl⟩
    · have hck : chkC gs c = chkLs gs c := by unfold chkC; rw [if_neg (by rw [hck0]; simp), if_neg h12]
      refine op_v (v_cmpf rfl rfl rfl (by omega)) rfl ?_
      refine ops_nil ?_
      refine post_next ?_
      refine code_cond_f rfl ?_
      refine code_skip ?_
      refine post_next ?_
      refine code_seq ?_
      refine code_seq ?_
      refine code_region ?_
      refine op_v (v_assign rfl) rfl ?_
      refine ops_nil ?_
      refine post_next ?_
      refine code_block ?_
      refine code_loop (fun m σ' I' δ' => ∃ k : Nat, m = c.length - k ∧ k ≤ c.length ∧ σ' = [(0, vg), (1, .slice ad c.length c0), (5, .int .i64 k)] ∧ I.le I' ∧ δ' = [] ∧ chkLs gs c = chkLs gs (c.drop k)) c.length [(0, vg), (1, .slice ad c.length c0), (5, .int .i64 (0 : Nat))] ⟨0, rfl, Nat.zero_le _, rfl, Imm.leA, rfl, rfl⟩ ⟨rfl, rfl, rfl, trivial⟩ ?_
      rintro m _ I0 _ ⟨k, rfl, hk, rfl, hI0, rfl, hta⟩
      refine code_seq ?_
      refine code_seq ?_
      refine code_region ?_
      refine op_v (v_move rfl) rfl ?_
      refine op_v (v_move rfl) rfl ?_
      refine op_v (v_len Tryz.underlying23 rfl) rfl ?_
      refine op_v (v_cmp rfl rfl rfl) rfl ?_
      refine ops_nil ?_
      refine post_next ?_
      refine code_cond rfl (fun hc2 => ?_) (fun hc2 => ?_)
      · have hlt : k < c.length := by simpa using hc2
        obtain ⟨vs, ⟨la, lc, ra, rc, rfl, hl, hr⟩, hat⟩ := hrow.cellsAt hcells hlt
        have hs1 := hat.isSome
        have hsk := hs.at hlt
        rw [List.drop_eq_getElem_cons hlt] at hta
        refine code_skip ?_
        refine post_next ?_
        refine code_seq ?_
        refine code_block ?_
        refine code_seq ?_
        refine code_region ?_
        refine op_v (v_move rfl) rfl ?_
        refine op_v (v_move rfl) rfl ?_
        refine op_v (v_move rfl) rfl ?_
        refine op_v (v_indexA Tryz.underlying23 sz59 rfl rfl) rfl ?_
        refine op_v (v_loadI0 ty59 (hat.mono hI0) rfl rfl rfl) rfl ?_
        refine op_call pl71 rfl rfl ((RLCheck_does (x := c[k]) (hg.mono hI0) ⟨la, lc, ra, rc, rfl, hl.mono hI0, hr.mono hI0⟩ hsk.1 hsk.2)) Parts.none ?_
        rintro v24 I24 _ hI24 ⟨rfl, rfl⟩
        refine op_v (v_assign rfl) rfl ?_
        refine ops_nil ?_
        refine post_next ?_
        refine code_seq ?_
        refine code_region ?_
        refine op_v (v_move rfl) rfl ?_
        by_cases h26 : litG gs c[k] ≠ 0
        · refine op_v (v_cmptA rfl rfl rfl) rfl ?_
          refine ops_nil ?_
          refine post_next ?_
          refine code_cond_t rfl ?_
          refine code_seq ?_
          refine code_region ?_
          refine op_v (v_move rfl) rfl ?_
          refine op_v (v_assign rfl) rfl ?_
          refine ops_nil ?_
          refine post_next ?_
          refine code_ret ?_
          refine post_ret_block ?_
          refine post_ret_then ?_
          refine post_ret_then ?_
          refine post_ret_block ?_
          refine post_ret_then ?_
          refine post_ret (rs := [.tmp 4]) rfl (List.Perm.refl _) (.cons (.tmp rfl) .nil) (List.nil_sublist _) ?_
          exact ⟨by rw [hck, hta, chkLs, if_pos h26]; rfl, rfl⟩
        · refine op_v (v_cmpfA rfl rfl rfl) rfl ?_
          refine ops_nil ?_
          refine post_next ?_
          refine code_cond_f rfl ?_
          refine code_skip ?_
          refine post_out ?_
          refine post_next ?_
          refine code_region ?_
          refine op_v (v_move rfl) rfl ?_
          refine op_v (v_addb rfl rfl rfl (by omega)) rfl ?_
          refine op_v (v_assign rfl) rfl ?_
          refine ops_nil ?_
          refine post_again (c.length - (k + 1)) [(0, vg), (1, .slice ad c.length c0), (5, .int .i64 (k + 1 : Nat))] (by omega) ⟨k + 1, rfl, hlt, rfl, Imm.leA, rfl, by rw [hta, chkLs, if_neg h26]⟩ ⟨rfl, rfl, rfl, trivial⟩
      · have hge : k = c.length := by simp at hc2; omega
        subst hge
        rw [List.drop_length] at hta
        refine code_exit ?_
        refine post_exit_then ?_
        refine post_exit_then ?_
        refine post_exit ?_
        refine post_next ?_
        refine code_seq ?_
        refine code_region ?_
        refine op_v (v_assign rfl) rfl ?_
        refine ops_nil ?_
        refine post_next ?_
        refine code_ret ?_
        refine post_ret (rs := [.tmp 4]) rfl (List.Perm.refl _) (.cons (.tmp rfl) .nil) (List.nil_sublist _) ?_
        exact ⟨by rw [hck, hta]; rfl, rfl⟩
  · have h9' : rightG gs = false := by simpa using h9
    rw [h9']
    have hck1 : chkG gs = 1 := if_neg h9
    refine op_v (v_not rfl) rfl ?_
    refine ops_nil ?_
    refine post_next ?_
    refine code_cond_t rfl ?_
    refine code_seq ?_
    refine code_region ?_
    refine op_v (v_assign rfl) rfl ?_
    refine ops_nil ?_
    refine post_next ?_
    refine code_ret ?_
    refine post_ret_then ?_
    refine post_ret (rs := [.tmp 4]) rfl (List.Perm.refl _) (.cons (.tmp rfl) .nil) (List.nil_sublist _) ?_
    exact ⟨by unfold chkC; rw [hck1, if_pos (by decide)]; rfl, rfl⟩
theorem RApply10_does {I : Imm} {vs v : Value} {bs : List Bi} {c : List Li} (hs : RepB I vs bs) (hv : RepC I v c) (hbs : ∀ b ∈ bs, b.2.size ≤ 500) (hsz : ∀ x ∈ c, x.l.size ≤ 500 ∧ x.r.size ≤ 500) :
    Does Tryz.prog 35 [vs, v] I [] (fun v I' δ' => (∃ e ys r, v = .tuple #[r, .int .i64 e] ∧ RepC I' r ys ∧ OutC bs c e ys) ∧ δ' = []) := by
  obtain ⟨sa, sc, rfl⟩ := hs.shape
  obtain ⟨ad, c0, xs, rfl, hc, hb, hcells, hrow⟩ := hv
  refine Does.intro Tryz.func35 rfl Tryz.ntmps35 rfl fun w0 => ?_
  refine code_seq ?_
  refine code_region ?_
  refine op_v (v_assign rfl) rfl ?_
  refine op_v (v_assign rfl) rfl ?_
  refine ops_nil ?_
  refine post_next ?_
  refine code_seq ?_
  refine code_seq ?_
  refine code_region ?_
  refine op_v (v_move rfl) rfl ?_
  refine op_v (v_len Tryz.underlying23 rfl) rfl ?_
  by_cases h12 : 32 < c.length
  · refine op_v (v_cmpt rfl rfl rfl (by omega)) rfl ?_
    refine ops_nil ?_
    refine post_next ?_
    refine code_cond_t rfl ?_
    refine code_seq ?_
    refine code_region ?_
    refine op_v (v_assign rfl) rfl ?_
    refine op_v (v_assign rfl) rfl ?_
    refine ops_nil ?_
    refine post_next ?_
    refine code_ret ?_
    refine post_ret_then ?_
    refine post_ret (rs := [.tmp 4, .tmp 5]) rfl (List.Perm.refl _) (.cons (.tmp rfl) (.cons (.tmp rfl) .nil)) (List.nil_sublist _) ?_
    exact ⟨⟨2, [], _, rfl, RepE.nil, .inl ⟨h12, rfl, rfl⟩⟩, rfl⟩
  · refine op_v (v_cmpf rfl rfl rfl (by omega)) rfl ?_
    refine ops_nil ?_
    refine post_next ?_
    refine code_cond_f rfl ?_
    refine code_skip ?_
    refine post_next ?_
    refine code_seq ?_
    refine code_region ?_
    refine op_v (v_assign rfl) rfl ?_
    refine ops_nil ?_
    refine post_next ?_
    refine code_seq ?_
    refine code_seq ?_
    refine code_region ?_
    refine op_v (v_assign rfl) rfl ?_
    refine ops_nil ?_
    refine post_next ?_
    refine code_block ?_
    refine CodeJ.view (View.nilRow 59 5) ?_
    refine code_loop (fun m σ' I' δ' => ∃ (k : Nat) (A : Option Addr) (c' : Nat) (zs : List Value) (ys : List Li), m = c.length - k ∧ k ≤ c.length ∧ σ' = [(0, .slice sa bs.length sc), (1, .slice ad c.length c0), (6, .slice A ys.length c'), (7, .int .i64 k)] ∧ I.le I' ∧ δ' = [cRow A c' ys.length zs] ∧ RowE LitE I' zs ys ∧ ys.length = k ∧ ∀ i (h : i < k) (h2 : i < ys.length) (h3 : i < c.length), OutL bs c[i] 0 ys[i]) c.length [(0, .slice sa bs.length sc), (1, .slice ad c.length c0), (6, .slice none 0 0), (7, .int .i64 (0 : Nat))] ⟨0, none, 0, [], [], rfl, Nat.zero_le _, rfl, Imm.le_refl _, rfl, rfl, rfl, fun i h => by omega⟩ ⟨rfl, rfl, rfl, rfl, trivial⟩ ?_
    rintro m _ I0 _ ⟨k, A, c', zs, ys, rfl, hk, rfl, hI0, rfl, hzs, hyl, hall⟩
    refine code_seq ?_
    refine code_seq ?_
    refine code_region ?_
    refine op_v (v_move rfl) rfl ?_
    refine op_v (v_move rfl) rfl ?_
    refine op_v (v_len Tryz.underlying23 rfl) rfl ?_
    refine op_v (v_cmp rfl rfl rfl) rfl ?_
    refine ops_nil ?_
    refine post_next ?_
    refine code_cond rfl (fun hc1 => ?_) (fun hc1 => ?_)
    · have hlt : k < c.length := by simpa using hc1
      obtain ⟨vs, ⟨la, lc, ra, rc, rfl, hl, hr⟩, hat⟩ := hrow.cellsAt hcells hlt
      have hs1 := hat.isSome
      have hsk := hsz _ (List.getElem_mem hlt)
      refine code_skip ?_
      refine post_next ?_
      refine code_seq ?_
      refine code_block ?_
      refine code_seq ?_
      refine code_region ?_
      refine op_v (v_move rfl) rfl ?_
      refine op_v (v_move rfl) rfl ?_
      refine op_v (v_move rfl) rfl ?_
      refine op_v (v_indexA Tryz.underlying23 sz59 rfl rfl) rfl ?_
      refine op_v (v_loadI0 ty59 (hat.mono hI0) rfl rfl rfl) rfl ?_
      refine op_call pl79 rfl rfl ((RLApply_does (x := c[k]) (hs.mono Imm.leA) ⟨la, lc, ra, rc, rfl, hl.mono Imm.leA, hr.mono Imm.leA⟩ hbs hsk.1 hsk.2)) Parts.none ?_
      rintro v25 I25 _ hI25 ⟨⟨e, y, r25, rfl, hr25, ho⟩, rfl⟩
      obtain ⟨ma, mc, na, nc, rfl, hml, hmr⟩ := hr25
      refine op_v (v_move rfl) rfl ?_
      refine op_v (v_extract rfl rfl) rfl ?_
      refine op_v (v_extract rfl rfl) rfl ?_
      refine o_alloc z59 rfl rfl (fun b8 => ?_)
      refine o_store ty59 rfl rfl rfl rfl rfl (by repeat (first | exact Swap.here | apply Swap.there)) rfl ?_
      refine op_v (v_assign rfl) rfl ?_
      refine ops_nil ?_
      refine post_next ?_
      refine code_seq ?_
      refine code_seq ?_
      refine code_region ?_
      refine op_v (v_move rfl) rfl ?_
      by_cases h29 : e ≠ 0
      · refine op_v (v_cmptA rfl rfl rfl) rfl ?_
        refine ops_nil ?_
        refine post_next ?_
        refine code_cond_t rfl ?_
        refine code_seq ?_
        refine code_region ?_
        refine op_v (v_move rfl) rfl ?_
        refine op_v (v_assign rfl) rfl ?_
        refine op_v (v_assign rfl) rfl ?_
        refine ops_nil ?_
        refine post_next ?_
        refine code_ret ?_
        refine post_ret_then ?_
        refine post_ret_block ?_
        refine post_ret_then ?_
        refine post_ret_then ?_
        refine post_ret_block ?_
        refine post_ret_then ?_
        refine post_ret (rs := [.tmp 4, .tmp 5]) rfl (List.Perm.refl _) (.cons (.tmp rfl) (.cons (.tmp rfl) .nil)) (List.nil_sublist _) ?_
        exact ⟨⟨e, [], _, rfl, RepE.nil, .inr ⟨by omega, .inl ⟨k, hlt, ys, y, ⟨hyl, fun i h h2 => hall i h h2 (by omega)⟩, ho, h29, rfl⟩⟩⟩, rfl⟩
      · have he : e = 0 := Classical.not_not.1 h29
        subst he
        refine op_v (v_cmpfA rfl rfl rfl) rfl ?_
        refine ops_nil ?_
        refine post_next ?_
        refine code_cond_f rfl ?_
        refine code_skip ?_
        refine post_next ?_
        refine code_region ?_
        refine op_v (v_move rfl) rfl ?_
        refine op_v (v_loadA ty59 rfl rfl) rfl ?_
        refine o_buildSlice (xs := [(Go.Operand.tmp 32)]) Tryz.underlying23 bs59 rfl rfl rfl rfl rfl (fun b33 => ?_)
        refine o_append Tryz.underlying23 bs59 rfl rfl rfl (fun v' => by repeat (first | exact Swap.here | apply Swap.there)) (Src.ofRow (by repeat (first | exact Has.here | apply Has.there)) rfl) (by first | rfl | omega | simp) (by simp [cat, cellsL, Value.oneCell']) (by omega) (by omega) (fun a34 c34 => ?_)
        have hl2 : ys.length + 1 = (ys ++ [y]).length := by simp
        refine op_v (v_assign rfl) rfl ?_
        refine ops_nil ?_
        refine post_out ?_
        refine post_next ?_
        refine code_region ?_
        refine op_v (v_move rfl) rfl ?_
        refine op_v (v_addb rfl rfl rfl (by omega)) rfl ?_
        refine op_v (v_assign rfl) rfl ?_
        refine ops_nil ?_
        refine PostJ.view ((View.drop Del.here).trans (View.drop Del.here)) ?_
        refine post_again (c.length - (k + 1)) [(0, .slice sa bs.length sc), (1, .slice ad c.length c0), (6, .slice a34 (ys.length + 1) c34), (7, .int .i64 (k + 1 : Nat))] (by omega) ⟨k + 1, a34, c34, zs ++ liC y ma mc na nc, ys ++ [y], rfl, hlt, by rw [hl2], Imm.leA, by simp only [cRow, ← hl2]; rfl, (hzs.mono Imm.leA).app (RowE.single ⟨ma, mc, na, nc, rfl, hml.mono Imm.leA, hmr.mono Imm.leA⟩), by simp; exact hyl, fun i h h2 h3 => ?_⟩ ⟨rfl, rfl, rfl, rfl, trivial⟩
        rcases Nat.lt_or_ge i k with q | q
        · rw [List.getElem_append_left (by omega)]; exact hall i q (by omega) h3
        · have e : i = k := by omega
          subst e
          rw [List.getElem_append_right (by omega)]; simp only [hyl, Nat.sub_self, List.getElem_cons_zero]; exact ho
    · have hge : k = c.length := by simp at hc1; omega
      refine code_exit ?_
      refine post_exit_then ?_
      refine post_exit_then ?_
      refine post_exit ?_
      refine post_next ?_
      refine code_seq ?_
      refine code_region ?_
      refine OpsJ.freezeRow Del.here ?_
      rintro I35 a35 c35 hI35 hq hc35 hl35 hcells35
      cases hq
      refine op_v (v_move rfl) rfl ?_
      refine op_v (v_assign rfl) rfl ?_
      refine op_v (v_assign rfl) rfl ?_
      refine ops_nil ?_
      refine post_next ?_
      refine code_ret ?_
      refine post_ret (rs := [.tmp 4, .tmp 5]) rfl (List.Perm.refl _) (.cons (.tmp rfl) (.cons (.tmp rfl) .nil)) (List.nil_sublist _) ?_
      exact ⟨⟨0, ys, _, rfl, ⟨_, _, _, rfl, hc35, by omega, hcells35, hzs.mono hI35⟩, .inr ⟨by omega, .inr ⟨rfl, by omega, fun i h h2 => hall i (by omega) h2 h⟩⟩⟩, rfl⟩
theorem RTop_does {I : Imm} {vg va : Value} {gs : List Sy} {c : List Li} {s : Bool} {i : Nat} (hg : RepG I vg gs) (hv : RepC I va c) (hchk : chkC gs c = 0) (hi : i < c.length) :
    Does Tryz.prog 28 [vg, va, .int .i64 i, .bool s] I [] (fun v _ δ' => v = .bool (topG gs c i s) ∧ δ' = []) := by
  obtain ⟨ad, c0, xs, rfl, hc, hb, hcells, hrow⟩ := hv
  obtain ⟨vi, ⟨ma, mc, na, nc, rfl, hil, hir⟩, hati⟩ := hrow.cellsAt hcells hi
  have hok : ∀ x ∈ c, OkL gs x := fun x hx => litG_ok ((chkC_ok hchk).2.2 x hx)
  refine Does.intro Tryz.func28 rfl Tryz.ntmps28 rfl fun w0 => ?_
  refine code_seq ?_
  refine code_region ?_
  refine op_v (v_assign rfl) rfl ?_
  refine ops_nil ?_
  refine post_next ?_
  refine code_seq ?_
  refine code_seq ?_
  refine code_region ?_
  refine op_v (v_assign rfl) rfl ?_
  refine ops_nil ?_
  refine post_next ?_
  refine code_block ?_
  refine code_loop (fun m σ' I' δ' => ∃ k : Nat, m = c.length - k ∧ k ≤ c.length ∧ σ' = [(0, vg), (1, .slice ad c.length c0), (2, .int .i64 i), (3, .bool s), (9, .int .i64 k)] ∧ I.le I' ∧ δ' = [] ∧ ∀ j (h : j < c.length), j < k → j = i ∨ undB gs c[j] c[i] s = true) c.length [(0, vg), (1, .slice ad c.length c0), (2, .int .i64 i), (3, .bool s), (9, .int .i64 (0 : Nat))] ⟨0, rfl, Nat.zero_le _, rfl, Imm.le_refl _, rfl, fun j _ h => by omega⟩ ⟨rfl, rfl, rfl, rfl, rfl, trivial⟩ ?_
  rintro m _ I0 _ ⟨k, rfl, hk, rfl, hI0, rfl, hall⟩
  refine code_seq ?_
  refine code_seq ?_
  refine code_region ?_
  refine op_v (v_move rfl) rfl ?_
  refine op_v (v_move rfl) rfl ?_
  refine op_v (v_len Tryz.underlying23 rfl) rfl ?_
  refine op_v (v_cmp rfl rfl rfl) rfl ?_
  refine ops_nil ?_
  refine post_next ?_
  refine code_cond rfl (fun hc0 => ?_) (fun hc0 => ?_)
  · have hlt : k < c.length := by simpa using hc0
    obtain ⟨vk, ⟨la, lc, ra, rc, rfl, hkl, hkr⟩, hatk⟩ := hrow.cellsAt hcells hlt
    have hs1 := hatk.isSome
    refine code_skip ?_
    refine post_next ?_
    refine code_seq ?_
    refine code_block ?_
    refine code_seq ?_
    refine code_draw (.fl 0 (.fl 1 (.fl 2 (.fl 3 (.fl 4 (.fl 5 (.fl 6 (.fl 7 (.fl 8 (.ef 9 (.ef 10 .done))))))))))) (fun _ => _) mixed (by kernel_rfl) (by kernel_rfl) (fun _ => (List.Sublist.refl _)) ?_
    refine e_fl rfl rfl (fun hs_ => PF.mk rfl (v_move rfl) hs_) ?_
    refine e_fl rfl rfl (fun hs_ => PF.mk rfl (v_move rfl) hs_) ?_
    refine e_fl rfl rfl (fun hs_ => PF.mk rfl (v_move rfl) hs_) ?_
    refine e_fl rfl rfl (fun hs_ => PF.mk rfl (v_indexA Tryz.underlying23 sz59 rfl rfl) hs_) ?_
    refine e_fl rfl rfl (fun hs_ => PF.mk rfl (v_loadI0 ty59 (hatk.mono Imm.leA) rfl rfl rfl) hs_) ?_
    refine e_fl rfl rfl (fun hs_ => PF.mk rfl (v_move rfl) hs_) ?_
    refine e_fl rfl rfl (fun hs_ => PF.mk rfl (v_move rfl) hs_) ?_
    refine e_fl rfl rfl (fun hs_ => PF.mk rfl (v_indexA Tryz.underlying23 sz59 rfl rfl) hs_) ?_
    refine e_fl rfl rfl (fun hs_ => PF.mk rfl (v_loadI0 ty59 (hati.mono Imm.leA) rfl rfl rfl) hs_) ?_
    refine e_eff rfl (by intro cs b hc; cases hc) (by intro c hc; cases hc) ?_
    refine op_call pl72 rfl rfl ((RLStand_does (x := c[k]) (y := c[i]) (hg.mono Imm.leA) ⟨la, lc, ra, rc, rfl, hkl.mono Imm.leA, hkr.mono Imm.leA⟩ ⟨ma, mc, na, nc, rfl, hil.mono Imm.leA, hir.mono Imm.leA⟩ (hok _ (List.getElem_mem hlt)).row (hok _ (List.getElem_mem hi)).row)) Parts.none ?_
    rintro v26 I26 _ hI26 ⟨rfl, rfl⟩
    refine ops_nil ?_
    refine e_next rfl side_allA ?_
    refine e_eff rfl (by intro cs b hc; cases hc) (by intro c hc; cases hc) ?_
    refine op_v (v_assign rfl) rfl ?_
    refine ops_nil ?_
    refine e_next rfl (side_nil (by kernel_rfl)) ?_
    refine e_done ?_
    refine post_next ?_
    refine code_seq ?_
    refine code_region ?_
    refine op_v (v_move rfl) rfl ?_
    refine op_v (v_move rfl) rfl ?_
    by_cases h29 : k ≠ i
    · refine op_v (v_cmptA rfl rfl rfl) rfl ?_
      refine op_v (v_move rfl) rfl ?_
      refine op_want rfl rfl ?_
      refine op_v (v_move rfl) rfl ?_
      by_cases h32 : mulG gs (rowL c[k]) (rowL c[i]) = 1
      · have hu' : ¬ undB gs c[k] c[i] s = true := by simp [undB, h32]
        first
          | (refine op_want rfl rfl ?_
             refine op_v (v_cmptA rfl rfl rfl) rfl ?_)
          | (refine op_skip rfl rfl (by simp [undef]) rfl ?_)
        refine op_want rfl rfl ?_
        refine op_v (v_move rfl) rfl ?_
        refine op_skip rfl rfl (by simp [undef]) rfl ?_
        refine op_skip rfl rfl (by simp [undef]) rfl ?_
        refine op_skip rfl rfl (by simp [undef]) rfl ?_
        refine op_skip rfl rfl (by simp [undef]) rfl ?_
        refine op_skip rfl rfl (by simp [undef]) rfl ?_
        first
          | (refine op_want rfl rfl ?_
             refine op_v (v_pickt rfl rfl) rfl ?_)
          | (refine op_skip rfl rfl (by simp [undef]) rfl ?_)
        refine op_v (v_pickt rfl rfl) rfl ?_
        refine ops_nil ?_
        refine post_next ?_
        refine code_cond_t rfl ?_
        refine code_seq ?_
        refine code_region ?_
        refine op_v (v_assign rfl) rfl ?_
        refine ops_nil ?_
        refine post_next ?_
        refine code_ret ?_
        refine post_ret_block ?_
        refine post_ret_then ?_
        refine post_ret_then ?_
        refine post_ret_block ?_
        refine post_ret_then ?_
        refine post_ret (rs := [.tmp 8]) rfl (List.Perm.refl _) (.cons (.tmp rfl) .nil) (List.nil_sublist _) ?_
        exact ⟨by rw [show topG gs c i s = false from by cases h : topG gs c i s; rfl; rcases (topG_iff hi).1 h k hlt with q | q; exact absurd q h29; exact absurd q hu']; rfl, rfl⟩
      · first
          | (refine op_want rfl rfl ?_
             refine op_v (v_cmpfA rfl rfl rfl) rfl ?_)
          | (refine op_skip rfl rfl (by simp [undef]) rfl ?_)
        refine op_want rfl rfl ?_
        refine op_v (v_move rfl) rfl ?_
        by_cases hst : s = true
        · subst hst
          refine op_want rfl rfl ?_
          refine op_v (v_move rfl) rfl ?_
          refine op_want rfl rfl ?_
          refine op_v (v_move rfl) rfl ?_
          refine op_want rfl rfl ?_
          refine op_v (v_move rfl) rfl ?_
          by_cases h37 : mulG gs (rowL c[k]) (rowL c[i]) = 0
          · have hu' : ¬ undB gs c[k] c[i] true = true := by simp [undB, h37]
            first
              | (refine op_want rfl rfl ?_
                 refine op_v (v_cmptA rfl rfl rfl) rfl ?_)
              | (refine op_skip rfl rfl (by simp [undef]) rfl ?_)
            first
              | (refine op_want rfl rfl ?_
                 refine op_v (v_pickt rfl rfl) rfl ?_)
              | (refine op_skip rfl rfl (by simp [undef]) rfl ?_)
            first
              | (refine op_want rfl rfl ?_
                 refine op_v (v_pickf rfl rfl) rfl ?_)
              | (refine op_skip rfl rfl (by simp [undef]) rfl ?_)
            refine op_v (v_pickt rfl rfl) rfl ?_
            refine ops_nil ?_
            refine post_next ?_
            refine code_cond_t rfl ?_
            refine code_seq ?_
            refine code_region ?_
            refine op_v (v_assign rfl) rfl ?_
            refine ops_nil ?_
            refine post_next ?_
            refine code_ret ?_
            refine post_ret_block ?_
            refine post_ret_then ?_
            refine post_ret_then ?_
            refine post_ret_block ?_
            refine post_ret_then ?_
            refine post_ret (rs := [.tmp 8]) rfl (List.Perm.refl _) (.cons (.tmp rfl) .nil) (List.nil_sublist _) ?_
            exact ⟨by rw [show topG gs c i true = false from by cases h : topG gs c i true; rfl; rcases (topG_iff hi).1 h k hlt with q | q; exact absurd q h29; exact absurd q hu']; rfl, rfl⟩
          · have hu : undB gs c[k] c[i] true = true := by simp [undB, h32, h37]
            first
              | (refine op_want rfl rfl ?_
                 refine op_v (v_cmpfA rfl rfl rfl) rfl ?_)
              | (refine op_skip rfl rfl (by simp [undef]) rfl ?_)
            first
              | (refine op_want rfl rfl ?_
                 refine op_v (v_pickt rfl rfl) rfl ?_)
              | (refine op_skip rfl rfl (by simp [undef]) rfl ?_)
            first
              | (refine op_want rfl rfl ?_
                 refine op_v (v_pickf rfl rfl) rfl ?_)
              | (refine op_skip rfl rfl (by simp [undef]) rfl ?_)
            refine op_v (v_pickt rfl rfl) rfl ?_
            refine ops_nil ?_
            refine post_next ?_
            refine code_cond_f rfl ?_
            refine code_skip ?_
            refine post_out ?_
            refine post_next ?_
            refine code_region ?_
            refine op_v (v_move rfl) rfl ?_
            refine op_v (v_addb rfl rfl rfl (by omega)) rfl ?_
            refine op_v (v_assign rfl) rfl ?_
            refine ops_nil ?_
            refine post_again (c.length - (k + 1)) [(0, vg), (1, .slice ad c.length c0), (2, .int .i64 i), (3, .bool true), (9, .int .i64 (k + 1 : Nat))] (by omega) ⟨k + 1, rfl, hlt, rfl, Imm.leA, rfl, fun j h hj => ?_⟩ ⟨rfl, rfl, rfl, rfl, rfl, trivial⟩
            rcases Nat.lt_or_ge j k with q | q
            · exact hall j h q
            · right
              have e : j = k := by omega
              subst e; exact hu
        · have hst' : s = false := by simpa using hst
          subst hst'
          have hu : undB gs c[k] c[i] false = true := by simp [undB, h32]
          refine op_want rfl rfl ?_
          refine op_v (v_move rfl) rfl ?_
          refine op_want rfl rfl ?_
          refine op_v (v_move rfl) rfl ?_
          refine op_skip rfl rfl (by simp [undef]) rfl ?_
          refine op_skip rfl rfl (by simp [undef]) rfl ?_
          first
            | (refine op_want rfl rfl ?_
               refine op_v (v_pickf rfl rfl) rfl ?_)
            | (refine op_skip rfl rfl (by simp [undef]) rfl ?_)
          first
            | (refine op_want rfl rfl ?_
               refine op_v (v_pickf rfl rfl) rfl ?_)
            | (refine op_skip rfl rfl (by simp [undef]) rfl ?_)
          refine op_v (v_pickt rfl rfl) rfl ?_
          refine ops_nil ?_
          refine post_next ?_
          refine code_cond_f rfl ?_
          refine code_skip ?_
          refine post_out ?_
          refine post_next ?_
          refine code_region ?_
          refine op_v (v_move rfl) rfl ?_
          refine op_v (v_addb rfl rfl rfl (by omega)) rfl ?_
          refine op_v (v_assign rfl) rfl ?_
          refine ops_nil ?_
          refine post_again (c.length - (k + 1)) [(0, vg), (1, .slice ad c.length c0), (2, .int .i64 i), (3, .bool false), (9, .int .i64 (k + 1 : Nat))] (by omega) ⟨k + 1, rfl, hlt, rfl, Imm.leA, rfl, fun j h hj => ?_⟩ ⟨rfl, rfl, rfl, rfl, rfl, trivial⟩
          rcases Nat.lt_or_ge j k with q | q
          · exact hall j h q
          · right
            have e : j = k := by omega
            subst e; exact hu
    · refine op_v (v_cmpfA rfl rfl rfl) rfl ?_
      refine op_v (v_move rfl) rfl ?_
      refine op_skip rfl rfl (by simp [undef]) rfl ?_
      refine op_skip rfl rfl (by simp [undef]) rfl ?_
      refine op_skip rfl rfl (by simp [undef]) rfl ?_
      refine op_skip rfl rfl (by simp [undef]) rfl ?_
      refine op_skip rfl rfl (by simp [undef]) rfl ?_
      refine op_skip rfl rfl (by simp [undef]) rfl ?_
      refine op_skip rfl rfl (by simp [undef]) rfl ?_
      refine op_skip rfl rfl (by simp [undef]) rfl ?_
      refine op_skip rfl rfl (by simp [undef]) rfl ?_
      refine op_v (v_pickf rfl rfl) rfl ?_
      refine ops_nil ?_
      refine post_next ?_
      refine code_cond_f rfl ?_
      refine code_skip ?_
      refine post_out ?_
      refine post_next ?_
      refine code_region ?_
      refine op_v (v_move rfl) rfl ?_
      refine op_v (v_addb rfl rfl rfl (by omega)) rfl ?_
      refine op_v (v_assign rfl) rfl ?_
      refine ops_nil ?_
      refine post_again (c.length - (k + 1)) [(0, vg), (1, .slice ad c.length c0), (2, .int .i64 i), (3, .bool s), (9, .int .i64 (k + 1 : Nat))] (by omega) ⟨k + 1, rfl, hlt, rfl, Imm.leA, rfl, fun j h hj => ?_⟩ ⟨rfl, rfl, rfl, rfl, rfl, trivial⟩
      rcases Nat.lt_or_ge j k with q | q
      · exact hall j h q
      · left; have := Classical.not_not.1 h29; omega
  · have hge : k = c.length := by simp at hc0; omega
    refine code_exit ?_
    refine post_exit_then ?_
    refine post_exit_then ?_
    refine post_exit ?_
    refine post_next ?_
    refine code_seq ?_
    refine code_region ?_
    refine op_v (v_assign rfl) rfl ?_
    refine ops_nil ?_
    refine post_next ?_
    refine code_ret ?_
    refine post_ret (rs := [.tmp 8]) rfl (List.Perm.refl _) (.cons (.tmp rfl) .nil) (List.nil_sublist _) ?_
    exact ⟨by rw [(topG_iff hi).2 fun j h => hall j h (by omega)]; rfl, rfl⟩
theorem RMaximal_does {I : Imm} {vg va : Value} {gs : List Sy} {c : List Li} {s : Bool} {i : Int} (hg : RepG I vg gs) (hv : RepC I va c) (hsm : SmC c) :
    Does Tryz.prog 8 [vg, va, .int .i64 i, .bool s] I [] (fun v _ δ' => v = .tuple #[.bool (maxB gs c i s), .int .i64 (maxE gs c i)] ∧ δ' = []) := by
  obtain ⟨ad, c0, hsh⟩ := RepE.shape hv
  subst hsh
  have hb := hv.small
  refine Does.intro Tryz.func8 rfl Tryz.ntmps8 rfl fun w0 => ?_
  refine code_seq ?_
  refine code_region ?_
  refine op_v (v_assign rfl) rfl ?_
  refine op_v (v_assign rfl) rfl ?_
  refine ops_nil ?_
  refine post_next ?_
  refine code_seq ?_
  refine code_region ?_
  refine op_v (v_move rfl) rfl ?_
  refine op_v (v_move rfl) rfl ?_
  refine op_call pl27 rfl rfl ((RCheck10_does hg hv hsm)) Parts.none ?_
  rintro v13 I13 _ hI13 ⟨rfl, rfl⟩
  refine op_v (v_assign rfl) rfl ?_
  refine ops_nil ?_
  refine post_next ?_
  refine code_seq ?_
  refine code_seq ?_
  refine code_region ?_
  refine op_v (v_move rfl) rfl ?_
  by_cases h15 : chkC gs c ≠ 0
  · have he : maxE gs c i = chkC gs c := if_pos h15
    refine op_v (v_cmptA rfl rfl rfl) rfl ?_
    refine ops_nil ?_
    refine post_next ?_
    refine code_cond_t rfl ?_
    refine code_seq ?_
    refine code_region ?_
    refine op_v (v_move rfl) rfl ?_
    refine op_v (v_assign rfl) rfl ?_
    refine op_v (v_assign rfl) rfl ?_
    refine ops_nil ?_
    refine post_next ?_
    refine code_ret ?_
    refine post_ret_then ?_
    refine post_ret (rs := [.tmp 8, .tmp 9]) rfl (List.Perm.refl _) (.cons (.tmp rfl) (.cons (.tmp rfl) .nil)) (List.nil_sublist _) ?_
    exact ⟨by unfold maxB; rw [he, if_neg h15]; rfl, rfl⟩
  · have hc : chkC gs c = 0 := Classical.not_not.1 h15
    refine op_v (v_cmpfA rfl rfl rfl) rfl ?_
    refine ops_nil ?_
    refine post_next ?_
    refine code_cond_f rfl ?_
    refine code_skip ?_
    refine post_next ?_
    refine code_seq ?_
    refine code_seq ?_
    refine code_region ?_
    refine op_v (v_move rfl) rfl ?_
    by_cases h18 : i < 0
    · have he : maxE gs c i = 1 := by unfold maxE; rw [if_neg h15, if_pos (.inl h18)]
      refine op_v (v_cmptA rfl rfl rfl) rfl ?_
      refine op_v (v_move rfl) rfl ?_
      refine op_skip rfl rfl (by simp [undef]) rfl ?_
      refine op_skip rfl rfl (by simp [undef]) rfl ?_
      refine op_skip rfl rfl (by simp [undef]) rfl ?_
      refine op_skip rfl rfl (by simp [undef]) rfl ?_
      refine op_v (v_pickt rfl rfl) rfl ?_
      refine ops_nil ?_
      refine post_next ?_
      refine code_cond_t rfl ?_
      refine code_seq ?_
      refine code_region ?_
      refine op_v (v_assign rfl) rfl ?_
      refine op_v (v_assign rfl) rfl ?_
      refine ops_nil ?_
      refine post_next ?_
      refine code_ret ?_
      refine post_ret_then ?_
      refine post_ret (rs := [.tmp 8, .tmp 9]) rfl (List.Perm.refl _) (.cons (.tmp rfl) (.cons (.tmp rfl) .nil)) (List.nil_sublist _) ?_
      exact ⟨by unfold maxB; rw [he, if_neg (by decide)]; rfl, rfl⟩
    · refine op_v (v_cmpfA rfl rfl rfl) rfl ?_
      refine op_v (v_move rfl) rfl ?_
      refine op_want rfl rfl ?_
      refine op_v (v_move rfl) rfl ?_
      refine op_want rfl rfl ?_
      refine op_v (v_move rfl) rfl ?_
      refine op_want rfl rfl ?_
      refine op_v (v_len Tryz.underlying23 rfl) rfl ?_
      by_cases h23 : (c.length : Int) ≤ i
      · have he : maxE gs c i = 1 := by unfold maxE; rw [if_neg h15, if_pos (.inr h23)]
        first
          | (refine op_want rfl rfl ?_
             refine op_v (v_cmptA rfl rfl rfl) rfl ?_)
          | (refine op_skip rfl rfl (by simp [undef]) rfl ?_)
        refine op_v (v_pickf rfl rfl) rfl ?_
        refine ops_nil ?_
        refine post_next ?_
        refine code_cond_t rfl ?_
        refine code_seq ?_
        refine code_region ?_
        refine op_v (v_assign rfl) rfl ?_
        refine op_v (v_assign rfl) rfl ?_
        refine ops_nil ?_
        refine post_next ?_
        refine code_ret ?_
        refine post_ret_then ?_
        refine post_ret (rs := [.tmp 8, .tmp 9]) rfl (List.Perm.refl _) (.cons (.tmp rfl) (.cons (.tmp rfl) .nil)) (List.nil_sublist _) ?_
        exact ⟨by unfold maxB; rw [he, if_neg (by decide)]; rfl, rfl⟩
      · have he : maxE gs c i = 0 := by unfold maxE; rw [if_neg h15, if_neg (fun h => by rcases h with h | h; exact h18 h; exact h23 h)]
        obtain ⟨n, hn⟩ := Int.eq_ofNat_of_zero_le (show 0 ≤ i by omega)
        subst hn
        first
          | (refine op_want rfl rfl ?_
             refine op_v (v_cmpfA rfl rfl rfl) rfl ?_)
          | (refine op_skip rfl rfl (by simp [undef]) rfl ?_)
        refine op_v (v_pickf rfl rfl) rfl ?_
        refine ops_nil ?_
        refine post_next ?_
        refine code_cond_f rfl ?_
        refine code_skip ?_
        refine post_next ?_
        refine code_seq ?_
        refine code_region ?_
        refine op_v (v_move rfl) rfl ?_
        refine op_v (v_move rfl) rfl ?_
        refine op_v (v_move rfl) rfl ?_
        refine op_v (v_move rfl) rfl ?_
        refine op_call pl28 rfl rfl ((RTop_does (i := n) (hg.mono Imm.leA) (hv.mono Imm.leA) hc (by omega))) Parts.none ?_
        rintro v29 I29 _ hI29 ⟨rfl, rfl⟩
        refine op_v (v_assign rfl) rfl ?_
        refine op_v (v_assign rfl) rfl ?_
        refine ops_nil ?_
        refine post_next ?_
        refine code_ret ?_
        refine post_ret (rs := [.tmp 8, .tmp 9]) rfl (List.Perm.refl _) (.cons (.tmp rfl) (.cons (.tmp rfl) .nil)) (List.nil_sublist _) ?_
        exact ⟨by unfold maxB; rw [he, if_pos rfl]; rfl, rfl⟩
theorem RweightL_does {I : Imm} {vg va : Value} {gs : List Sy} {x : Li} (hg : RepG I vg gs) (ha : RepL I va x) (hO : OkL gs x) (ht : termG gs x.l = 0 ∧ termG gs x.r = 0) :
    Does Tryz.prog 76 [vg, va] I [] (fun v _ δ' => v = .int .i64 (litW gs x) ∧ δ' = []) := by
  obtain ⟨la, lc, ra, rc, rfl, hl, hr⟩ := ha
  refine Does.intro Tryz.func76 rfl Tryz.ntmps76 rfl fun w0 => ?_
  refine code_seq ?_
  refine code_region ?_
  refine o_box rfl rfl rfl (fun b3 => ?_)
  refine op_v (v_assign rfl) rfl ?_
  refine ops_nil ?_
  refine post_next ?_
  refine code_seq ?_
  refine code_region ?_
  refine op_v (v_move rfl) rfl ?_
  refine op_v (v_fieldB 1 Tryz.underlying59 rfl rfl fz48 rfl) rfl ?_
  refine op_v (v_loadA ty48 rfl rfl) rfl ?_
  refine op_call pl120 rfl rfl ((RWeight_does hO.1 (hg.mono Imm.leA) (hl.mono Imm.leA))) Parts.none ?_
  rintro v13 I13 _ hI13 ⟨rfl, rfl⟩
  refine op_v (v_move rfl) rfl ?_
  refine op_v (v_extract rfl rfl) rfl ?_
  refine op_v (v_extract rfl rfl) rfl ?_
  refine op_v (v_assign rfl) rfl ?_
  refine op_v (v_assign rfl) rfl ?_
  refine ops_nil ?_
  refine post_next ?_
  refine code_seq ?_
  refine code_region ?_
  refine op_v (v_move rfl) rfl ?_
  refine op_v (v_fieldB 3 Tryz.underlying59 rfl rfl fz48 rfl) rfl ?_
  refine op_v (v_loadA ty48 rfl rfl) rfl ?_
  refine op_call pl120 rfl rfl ((RWeight_does hO.2 (hg.mono Imm.leA) (hr.mono Imm.leA))) Parts.none ?_
  rintro v20 I20 _ hI20 ⟨rfl, rfl⟩
  refine op_v (v_move rfl) rfl ?_
  refine op_v (v_extract rfl rfl) rfl ?_
  refine op_v (v_extract rfl rfl) rfl ?_
  refine op_v (v_assign rfl) rfl ?_
  refine op_v (v_assign rfl) rfl ?_
  refine ops_nil ?_
  refine post_next ?_
  refine code_seq ?_
  refine code_region ?_
  refine op_v (v_move rfl) rfl ?_
  refine op_v (v_move rfl) rfl ?_
  refine op_v (v_add rfl rfl) rfl ?_
  refine op_v (v_assign rfl) rfl ?_
  refine ops_nil ?_
  refine post_next ?_
  refine code_ret ?_
  refine post_ret (rs := [.tmp 4]) rfl (List.Perm.refl _) (.cons (.tmp rfl) .nil) (List.nil_sublist _) ?_
  exact ⟨by unfold litW; rw [if_pos ht.1, if_pos ht.2]; rfl, rfl⟩
end Go.Proofs.YtdbadicpbmndbaaGreat
/- Walks: the document's answers on what is selected; the statement on maximal literals. -/
set_option linter.unusedVariables false
set_option linter.unusedSimpArgs false
set_option linter.unnecessarySimpa false
/- short -/
namespace Go.Proofs.YtdbadicpbmndbaaGreat
open Go Lg

theorem litG_term {gs : List Sy} {x : Li} (h : litG gs x = 0) : termG gs x.l = 0 ∧ termG gs x.r = 0 := by
  unfold litG at h
  split at h
  · rename_i q; exact absurd h q
  · rename_i q
    split at h
    · rename_i r; exact absurd h r
    · rename_i r; exact ⟨Classical.not_not.1 q, Classical.not_not.1 r⟩
def bestI : Option Nat → Int
  | none => -1
  | some j => (j : Int)
theorem pick_step {gs : List Sy} {c : List Li} {how : Int} {k : Nat} (hk : k < c.length) : pickG gs c how (k + 1) = if c[k].neg = false ∨ how = 0 then pickG gs c how k else match pickG gs c how k with
    | none => some k
    | some j => if how = 2 ∧ litW gs (c.getD j zeroLi) < litW gs c[k] then some k else some j := by
  simp only [pickG]; rw [getD_at hk]; rfl
theorem RPicked_does {I : Imm} {vg va : Value} {gs : List Sy} {c : List Li} {how : Int} (hg : RepG I vg gs) (hv : RepC I va c) (hchk : chkC gs c = 0) :
    Does Tryz.prog 32 [vg, va, .int .i64 how] I [] (fun v I' δ' => RInts I' v (selG gs c how) ∧ δ' = []) := by
  obtain ⟨ad, c0, xs, rfl, hc, hb, hcells, hrow⟩ := hv
  have hlt0 : ∀ x ∈ c, litG gs x = 0 := (chkC_ok hchk).2.2
  refine Does.intro Tryz.func32 rfl Tryz.ntmps32 rfl fun w0 => ?_
  refine code_seq ?_
  refine code_region ?_
  refine op_v (v_assign rfl) rfl ?_
  refine ops_nil ?_
  refine post_next ?_
  refine code_seq ?_
  refine code_region ?_
  refine op_v (v_assign rfl) rfl ?_
  refine ops_nil ?_
  refine post_next ?_
  refine code_seq ?_
  refine code_seq ?_
  refine code_region ?_
  refine op_v (v_assign rfl) rfl ?_
  refine ops_nil ?_
  refine post_next ?_
  refine code_block ?_
  refine code_loop (fun m σ' I' δ' => ∃ k : Nat, m = c.length - k ∧ k ≤ c.length ∧ σ' = [(0, vg), (1, .slice ad c.length c0), (2, .int .i64 how), (7, .int .i64 (bestI (pickG gs c how k))), (8, .int .i64 k)] ∧ I.le I' ∧ δ' = []) c.length [(0, vg), (1, .slice ad c.length c0), (2, .int .i64 how), (7, .int .i64 (-1)), (8, .int .i64 (0 : Nat))] ⟨0, rfl, Nat.zero_le _, rfl, Imm.le_refl _, rfl⟩ ⟨rfl, rfl, rfl, rfl, rfl, trivial⟩ ?_
  rintro m _ I0 _ ⟨k, rfl, hk, rfl, hI0, rfl⟩
  refine code_seq ?_
  refine code_seq ?_
  refine code_region ?_
  refine op_v (v_move rfl) rfl ?_
  refine op_v (v_move rfl) rfl ?_
  refine op_v (v_len Tryz.underlying23 rfl) rfl ?_
  refine op_v (v_cmp rfl rfl rfl) rfl ?_
  refine ops_nil ?_
  refine post_next ?_
  refine code_cond rfl (fun hc0 => ?_) (fun hc0 => ?_)
  · have hlt : k < c.length := by simpa using hc0
    obtain ⟨vk, ⟨la, lc, ra, rc, rfl, hl, hr⟩, hat⟩ := hrow.cellsAt hcells hlt
    have hs1 := hat.isSome
    have hst := pick_step (gs := gs) (how := how) hlt
    refine code_skip ?_
    refine post_next ?_
    refine code_seq ?_
    refine code_block ?_
    refine code_seq ?_
    refine code_seq ?_
    refine code_region ?_
    refine op_v (v_move rfl) rfl ?_
    refine op_v (v_move rfl) rfl ?_
    refine op_v (v_indexA Tryz.underlying23 sz59 rfl rfl) rfl ?_
    refine op_v (v_fieldI 0 Tryz.underlying59 rfl rfl fz4 rfl (by assumption)) rfl ?_
    by_cases hn : c[k].neg = true
    · refine op_v (v_loadI (k := 0) (v := .bool true) ty4 (hat.mono Imm.leA) rfl (by show some (Value.bool c[k].neg) = _; rw [hn]) rfl) rfl ?_
      refine op_v (v_not rfl) rfl ?_
      refine op_v (v_move rfl) rfl ?_
      refine op_want rfl rfl ?_
      refine op_v (v_move rfl) rfl ?_
      by_cases h23 : how = 0
      · rw [if_pos (.inr h23)] at hst
        first
          | (refine op_want rfl rfl ?_
             refine op_v (v_cmptA rfl rfl rfl) rfl ?_)
          | (refine op_skip rfl rfl (by simp [undef]) rfl ?_)
        refine op_v (v_pickf rfl rfl) rfl ?_
        refine ops_nil ?_
        refine post_next ?_
        refine code_cond_t rfl ?_
        refine code_exit ?_
        refine post_exit_then ?_
        refine post_exit ?_
        refine post_next ?_
        refine code_region ?_
        refine op_v (v_move rfl) rfl ?_
        refine op_v (v_addb rfl rfl rfl (by omega)) rfl ?_
        refine op_v (v_assign rfl) rfl ?_
        refine ops_nil ?_
        refine post_again (c.length - (k + 1)) [(0, vg), (1, .slice ad c.length c0), (2, .int .i64 how), (7, .int .i64 (bestI (pickG gs c how (k + 1)))), (8, .int .i64 (k + 1 : Nat))] (by omega) ⟨k + 1, rfl, hlt, rfl, Imm.leA, rfl⟩ ⟨rfl, rfl, rfl, by rw [hst]; rfl, rfl, trivial⟩
      · rw [if_neg (fun h => by rcases h with h | h; rw [hn] at h; cases h; exact h23 h)] at hst
        first
          | (refine op_want rfl rfl ?_
             refine op_v (v_cmpfA rfl rfl rfl) rfl ?_)
          | (refine op_skip rfl rfl (by simp [undef]) rfl ?_)
        refine op_v (v_pickf rfl rfl) rfl ?_
        refine ops_nil ?_
        refine post_next ?_
        refine code_cond_f rfl ?_
        refine code_skip ?_
        refine post_next ?_
        refine code_seq ?_
        refine code_draw (.fl 0 (.fl 1 (.fl 2 (.fl 3 (.fl 4 (.fl 5 (.fl 6 (.fl 7 (.fl 8 (.fl 9 (.fl 10 (.fl 12 (.fl 13 (.fl 14 (.fl 15 (.fl 16 (.ef 11 (.ef 17 (.fl 18 (.fl 19 (.fl 20 .done))))))))))))))))))))) (fun _ => _) mixed (by kernel_rfl) (by kernel_rfl) (fun _ => (List.Sublist.refl _)) ?_
        refine e_fl rfl rfl (fun hs_ => PF.mk rfl (v_move rfl) hs_) ?_
        by_cases h26 : pickG gs c how k = none
        · rw [h26] at hst
          simp only at hst
          refine e_fl rfl rfl (fun hs_ => PF.mk rfl (v_cmpt rfl rfl rfl (by rw [h26]; decide)) hs_) ?_
          refine e_fl rfl rfl (fun hs_ => PF.mk rfl (v_move rfl) hs_) ?_
          refine e_fl rfl rfl (fun hs_ => PF.mks rfl (by intro c hc; cases hc) rfl rfl (by simp [undef]) hs_) ?_
          refine e_fl rfl rfl (fun hs_ => PF.mks rfl (by intro c hc; cases hc) rfl rfl (by simp [undef]) hs_) ?_
          refine e_fl rfl rfl (fun hs_ => PF.mks rfl (by intro c hc; cases hc) rfl rfl (by simp [undef]) hs_) ?_
          refine e_fl rfl rfl (fun hs_ => PF.mks rfl (by intro c hc; cases hc) rfl rfl (by simp [undef]) hs_) ?_
          refine e_fl rfl rfl (fun hs_ => PF.mks rfl (by intro c hc; cases hc) rfl rfl (by simp [undef]) hs_) ?_
          refine e_fl rfl rfl (fun hs_ => PF.mks rfl (by intro c hc; cases hc) rfl rfl (by simp [undef]) hs_) ?_
          refine e_fl rfl rfl (fun hs_ => PF.mks rfl (by intro c hc; cases hc) rfl rfl (by simp [undef]) hs_) ?_
          refine e_fl rfl rfl (fun hs_ => PF.mks rfl (by intro c hc; cases hc) rfl rfl (by simp [undef]) hs_) ?_
          refine e_fl rfl rfl (fun hs_ => PF.mks rfl (by intro c hc; cases hc) rfl rfl (by simp [undef]) hs_) ?_
          refine e_fl rfl rfl (fun hs_ => PF.mks rfl (by intro c hc; cases hc) rfl rfl (by simp [undef]) hs_) ?_
          refine e_fl rfl rfl (fun hs_ => PF.mks rfl (by intro c hc; cases hc) rfl rfl (by simp [undef]) hs_) ?_
          refine e_fl rfl rfl (fun hs_ => PF.mks rfl (by intro c hc; cases hc) rfl rfl (by simp [undef]) hs_) ?_
          refine e_fl rfl rfl (fun hs_ => PF.mks rfl (by intro c hc; cases hc) rfl rfl (by simp [undef]) hs_) ?_
          refine e_eff rfl (by intro cs b hc; cases hc) (by intro c hc; cases hc) ?_
          refine op_skip rfl rfl (by simp [undef]) rfl ?_
          refine ops_nil ?_
          refine e_next rfl side_allA ?_
          refine e_eff rfl (by intro cs b hc; cases hc) (by intro c hc; cases hc) ?_
          refine op_skip rfl rfl (by simp [undef]) rfl ?_
          refine ops_nil ?_
          refine e_next rfl side_allA ?_
          refine e_fl rfl rfl (fun hs_ => PF.mks rfl (by intro c hc; cases hc) rfl rfl (by simp [undef]) hs_) ?_
          refine e_fl rfl rfl (fun hs_ => PF.mks rfl (by intro c hc; cases hc) rfl rfl (by simp [undef]) hs_) ?_
          refine e_fl rfl rfl (fun hs_ => PF.mk rfl (v_pickt rfl rfl) hs_) ?_
          refine e_done ?_
          refine post_next ?_
          refine code_cond_t rfl ?_
          refine code_region ?_
          refine op_v (v_move rfl) rfl ?_
          refine op_v (v_assign rfl) rfl ?_
          refine ops_nil ?_
          refine post_out ?_
          refine post_next ?_
          refine code_region ?_
          refine op_v (v_move rfl) rfl ?_
          refine op_v (v_addb rfl rfl rfl (by omega)) rfl ?_
          refine op_v (v_assign rfl) rfl ?_
          refine ops_nil ?_
          refine post_again (c.length - (k + 1)) [(0, vg), (1, .slice ad c.length c0), (2, .int .i64 how), (7, .int .i64 (bestI (pickG gs c how (k + 1)))), (8, .int .i64 (k + 1 : Nat))] (by omega) ⟨k + 1, rfl, hlt, rfl, Imm.leA, rfl⟩ ⟨rfl, rfl, rfl, by rw [hst]; rfl, rfl, trivial⟩
        · obtain ⟨j, hj⟩ := Option.ne_none_iff_exists'.1 h26
          rw [hj] at hst
          simp only at hst
          have hjl : j < c.length := by have := (pickG_neg gs c how k j hj).1; omega
          rw [getD_at hjl] at hst
          rw [hj, show bestI (some j) = (j : Int) from rfl]
          obtain ⟨vj, ⟨ma, mc, na, nc, rfl, hjL, hjR⟩, hatj⟩ := hrow.cellsAt hcells hjl
          refine e_fl rfl rfl (fun hs_ => PF.mk rfl (v_cmpf rfl rfl rfl (by omega)) hs_) ?_
          refine e_fl rfl rfl (fun hs_ => PF.mk rfl (v_move rfl) hs_) ?_
          refine e_fl rfl rfl (fun hs_ => PF.mkg rfl rfl rfl (v_move rfl) hs_) ?_
          by_cases h29 : how = 2
          · refine e_fl rfl rfl (fun hs_ => PF.mkg rfl rfl rfl (v_cmptA rfl rfl rfl) hs_) ?_
            refine e_fl rfl rfl (fun hs_ => PF.mkg rfl rfl rfl (v_move rfl) hs_) ?_
            refine e_fl rfl rfl (fun hs_ => PF.mkg rfl rfl rfl (v_move rfl) hs_) ?_
            refine e_fl rfl rfl (fun hs_ => PF.mkg rfl rfl rfl (v_move rfl) hs_) ?_
            refine e_fl rfl rfl (fun hs_ => PF.mkg rfl rfl rfl (v_move rfl) hs_) ?_
            refine e_fl rfl rfl (fun hs_ => PF.mkg rfl rfl rfl (v_indexA Tryz.underlying23 sz59 rfl rfl) hs_) ?_
            refine e_fl rfl rfl (fun hs_ => PF.mkg rfl rfl rfl (v_loadI0 ty59 (hat.mono Imm.leA) rfl rfl rfl) hs_) ?_
            refine e_fl rfl rfl (fun hs_ => PF.mkg rfl rfl rfl (v_move rfl) hs_) ?_
            refine e_fl rfl rfl (fun hs_ => PF.mkg rfl rfl rfl (v_move rfl) hs_) ?_
            refine e_fl rfl rfl (fun hs_ => PF.mkg rfl rfl rfl (v_move rfl) hs_) ?_
            refine e_fl rfl rfl (fun hs_ => PF.mkg rfl rfl rfl (v_indexA Tryz.underlying23 sz59 rfl rfl) hs_) ?_
            refine e_fl rfl rfl (fun hs_ => PF.mkg rfl rfl rfl (v_loadI0 ty59 (hatj.mono Imm.leA) rfl rfl rfl) hs_) ?_
            refine e_eff rfl (by intro cs b hc; cases hc) (by intro c hc; cases hc) ?_
            refine op_want rfl rfl ?_
            refine op_call pl76 rfl rfl ((RweightL_does (x := c[k]) (hg.mono Imm.leA) ⟨la, lc, ra, rc, rfl, hl.mono Imm.leA, hr.mono Imm.leA⟩ (litG_ok (hlt0 _ (List.getElem_mem hlt))) (litG_term (hlt0 _ (List.getElem_mem hlt))))) Parts.none ?_
            rintro v36 I36 _ hI36 ⟨rfl, rfl⟩
            refine ops_nil ?_
            refine e_next rfl side_allA ?_
            refine e_eff rfl (by intro cs b hc; cases hc) (by intro c hc; cases hc) ?_
            refine op_want rfl rfl ?_
            refine op_call pl76 rfl rfl ((RweightL_does (x := c[j]) (hg.mono Imm.leA) ⟨ma, mc, na, nc, rfl, hjL.mono Imm.leA, hjR.mono Imm.leA⟩ (litG_ok (hlt0 _ (List.getElem_mem hjl))) (litG_term (hlt0 _ (List.getElem_mem hjl))))) Parts.none ?_
            rintro v42 I42 _ hI42 ⟨rfl, rfl⟩
            refine ops_nil ?_
            refine e_next rfl side_allA ?_
            by_cases h43 : litW gs c[j] < litW gs c[k]
            · rw [if_pos ⟨h29, h43⟩] at hst
              refine e_fl rfl rfl (fun hs_ => PF.mkg rfl rfl rfl (v_cmpt rfl rfl rfl h43) hs_) ?_
              refine e_fl rfl rfl (fun hs_ => PF.mkg rfl rfl rfl (v_pickt rfl rfl) hs_) ?_
              refine e_fl rfl rfl (fun hs_ => PF.mk rfl (v_pickf rfl rfl) hs_) ?_
              refine e_done ?_
              refine post_next ?_
              refine code_cond_t rfl ?_
              refine code_region ?_
              refine op_v (v_move rfl) rfl ?_
              refine op_v (v_assign rfl) rfl ?_
              refine ops_nil ?_
              refine post_out ?_
              refine post_next ?_
              refine code_region ?_
              refine op_v (v_move rfl) rfl ?_
              refine op_v (v_addb rfl rfl rfl (by omega)) rfl ?_
              refine op_v (v_assign rfl) rfl ?_
              refine ops_nil ?_
              refine post_again (c.length - (k + 1)) [(0, vg), (1, .slice ad c.length c0), (2, .int .i64 how), (7, .int .i64 (bestI (pickG gs c how (k + 1)))), (8, .int .i64 (k + 1 : Nat))] (by omega) ⟨k + 1, rfl, hlt, rfl, Imm.leA, rfl⟩ ⟨rfl, rfl, rfl, by rw [hst]; rfl, rfl, trivial⟩
            · rw [if_neg (fun h => h43 h.2)] at hst
              refine e_fl rfl rfl (fun hs_ => PF.mkg rfl rfl rfl (v_cmpf rfl rfl rfl h43) hs_) ?_
              refine e_fl rfl rfl (fun hs_ => PF.mkg rfl rfl rfl (v_pickt rfl rfl) hs_) ?_
              refine e_fl rfl rfl (fun hs_ => PF.mk rfl (v_pickf rfl rfl) hs_) ?_
              refine e_done ?_
              refine post_next ?_
              refine code_cond_f rfl ?_
              refine code_skip ?_
              refine post_out ?_
              refine post_next ?_
              refine code_region ?_
              refine op_v (v_move rfl) rfl ?_
              refine op_v (v_addb rfl rfl rfl (by omega)) rfl ?_
              refine op_v (v_assign rfl) rfl ?_
              refine ops_nil ?_
              refine post_again (c.length - (k + 1)) [(0, vg), (1, .slice ad c.length c0), (2, .int .i64 how), (7, .int .i64 (bestI (pickG gs c how (k + 1)))), (8, .int .i64 (k + 1 : Nat))] (by omega) ⟨k + 1, rfl, hlt, rfl, Imm.leA, rfl⟩ ⟨rfl, rfl, rfl, by rw [hst]; rfl, rfl, trivial⟩
          · rw [if_neg (fun h => h29 h.1)] at hst
            refine e_fl rfl rfl (fun hs_ => PF.mkg rfl rfl rfl (v_cmpfA rfl rfl rfl) hs_) ?_
            refine e_fl rfl rfl (fun hs_ => PF.mkg rfl rfl rfl (v_move rfl) hs_) ?_
            refine e_fl rfl rfl (fun hs_ => PF.mks rfl (by intro c hc; cases hc) rfl rfl (by simp [undef]) hs_) ?_
            refine e_fl rfl rfl (fun hs_ => PF.mks rfl (by intro c hc; cases hc) rfl rfl (by simp [undef]) hs_) ?_
            refine e_fl rfl rfl (fun hs_ => PF.mks rfl (by intro c hc; cases hc) rfl rfl (by simp [undef]) hs_) ?_
            refine e_fl rfl rfl (fun hs_ => PF.mks rfl (by intro c hc; cases hc) rfl rfl (by simp [undef]) hs_) ?_
            refine e_fl rfl rfl (fun hs_ => PF.mks rfl (by intro c hc; cases hc) rfl rfl (by simp [undef]) hs_) ?_
            refine e_fl rfl rfl (fun hs_ => PF.mks rfl (by intro c hc; cases hc) rfl rfl (by simp [undef]) hs_) ?_
            refine e_fl rfl rfl (fun hs_ => PF.mks rfl (by intro c hc; cases hc) rfl rfl (by simp [undef]) hs_) ?_
            refine e_fl rfl rfl (fun hs_ => PF.mks rfl (by intro c hc; cases hc) rfl rfl (by simp [undef]) hs_) ?_
            refine e_fl rfl rfl (fun hs_ => PF.mks rfl (by intro c hc; cases hc) rfl rfl (by simp [undef]) hs_) ?_
            refine e_fl rfl rfl (fun hs_ => PF.mks rfl (by intro c hc; cases hc) rfl rfl (by simp [undef]) hs_) ?_
            refine e_eff rfl (by intro cs b hc; cases hc) (by intro c hc; cases hc) ?_
            refine op_skip rfl rfl (by simp [undef]) rfl ?_
            refine ops_nil ?_
            refine e_next rfl side_allA ?_
            refine e_eff rfl (by intro cs b hc; cases hc) (by intro c hc; cases hc) ?_
            refine op_skip rfl rfl (by simp [undef]) rfl ?_
            refine ops_nil ?_
            refine e_next rfl side_allA ?_
            refine e_fl rfl rfl (fun hs_ => PF.mks rfl (by intro c hc; cases hc) rfl rfl (by simp [undef]) hs_) ?_
            refine e_fl rfl rfl (fun hs_ => PF.mkg rfl rfl rfl (v_pickf rfl rfl) hs_) ?_
            refine e_fl rfl rfl (fun hs_ => PF.mk rfl (v_pickf rfl rfl) hs_) ?_
            refine e_done ?_
            refine post_next ?_
            refine code_cond_f rfl ?_
            refine code_skip ?_
            refine post_out ?_
            refine post_next ?_
            refine code_region ?_
            refine op_v (v_move rfl) rfl ?_
            refine op_v (v_addb rfl rfl rfl (by omega)) rfl ?_
            refine op_v (v_assign rfl) rfl ?_
            refine ops_nil ?_
            refine post_again (c.length - (k + 1)) [(0, vg), (1, .slice ad c.length c0), (2, .int .i64 how), (7, .int .i64 (bestI (pickG gs c how (k + 1)))), (8, .int .i64 (k + 1 : Nat))] (by omega) ⟨k + 1, rfl, hlt, rfl, Imm.leA, rfl⟩ ⟨rfl, rfl, rfl, by rw [hst]; rfl, rfl, trivial⟩
    · have hn' : c[k].neg = false := by simpa using hn
      rw [if_pos (.inl hn')] at hst
      refine op_v (v_loadI (k := 0) (v := .bool false) ty4 (hat.mono Imm.leA) rfl (by show some (Value.bool c[k].neg) = _; rw [hn']) rfl) rfl ?_
      refine op_v (v_not rfl) rfl ?_
      refine op_v (v_move rfl) rfl ?_
      refine op_skip rfl rfl (by simp [undef]) rfl ?_
      refine op_skip rfl rfl (by simp [undef]) rfl ?_
      refine op_v (v_pickt rfl rfl) rfl ?_
      refine ops_nil ?_
      refine post_next ?_
      refine code_cond_t rfl ?_
      refine code_exit ?_
      refine post_exit_then ?_
      refine post_exit ?_
      refine post_next ?_
      refine code_region ?_
      refine op_v (v_move rfl) rfl ?_
      refine op_v (v_addb rfl rfl rfl (by omega)) rfl ?_
      refine op_v (v_assign rfl) rfl ?_
      refine ops_nil ?_
      refine post_again (c.length - (k + 1)) [(0, vg), (1, .slice ad c.length c0), (2, .int .i64 how), (7, .int .i64 (bestI (pickG gs c how (k + 1)))), (8, .int .i64 (k + 1 : Nat))] (by omega) ⟨k + 1, rfl, hlt, rfl, Imm.leA, rfl⟩ ⟨rfl, rfl, rfl, by rw [hst]; rfl, rfl, trivial⟩
  · have hge : k = c.length := by simp at hc0; omega
    subst hge
    refine code_exit ?_
    refine post_exit_then ?_
    refine post_exit_then ?_
    refine post_exit ?_
    refine post_next ?_
    refine code_seq ?_
    refine code_seq ?_
    refine code_region ?_
    refine op_v (v_move rfl) rfl ?_
    by_cases h48 : pickG gs c how c.length = none
    · refine op_v (v_cmpt rfl rfl rfl (by rw [h48]; decide)) rfl ?_
      refine ops_nil ?_
      refine post_next ?_
      refine code_cond_t rfl ?_
      refine code_seq ?_
      refine code_region ?_
      refine op_v (v_assign rfl) rfl ?_
      refine ops_nil ?_
      refine post_next ?_
      refine code_ret ?_
      refine post_ret_then ?_
      refine post_ret (rs := [.tmp 6]) rfl (List.Perm.refl _) (.cons (.tmp rfl) .nil) (List.nil_sublist _) ?_
      exact ⟨by unfold selG; rw [h48]; exact RInts.nil _, rfl⟩
    · obtain ⟨j, hj⟩ := Option.ne_none_iff_exists'.1 h48
      have hjl := (pickG_neg gs c how _ j hj).1
      rw [hj, show bestI (some j) = (j : Int) from rfl]
      refine op_v (v_cmpf rfl rfl rfl (by omega)) rfl ?_
      refine ops_nil ?_
      refine post_next ?_
      refine code_cond_f rfl ?_
      refine code_skip ?_
      refine post_next ?_
      refine code_seq ?_
      refine code_region ?_
      refine op_v (v_move rfl) rfl ?_
      refine o_buildSlice (xs := [(Go.Operand.tmp 49)]) Tryz.underlying30 bs3 rfl rfl rfl rfl rfl (fun b50 => ?_)
      refine OpsJ.freezeRow Del.here ?_
      rintro I50 a50 c50 hI50 hq hc50 hl50 hcells50
      cases hq
      refine op_v (v_assign rfl) rfl ?_
      refine ops_nil ?_
      refine post_next ?_
      refine code_ret ?_
      refine post_ret (rs := [.tmp 6]) rfl (List.Perm.refl _) (.cons (.tmp rfl) .nil) (List.nil_sublist _) ?_
      exact ⟨by unfold selG; rw [hj]; exact RInts.of (xs := [(j : Int)]) rfl hc50 (by simp) hcells50 (by intro x hx; simp at hx; subst hx; unfold InR; omega), rfl⟩
theorem RSelect_does {I : Imm} {vg va : Value} {gs : List Sy} {c : List Li} {how : Int} (hg : RepG I vg gs) (hv : RepC I va c) (hsm : SmC c) :
    Does Tryz.prog 10 [vg, va, .int .i64 how] I [] (fun v I' δ' => (∃ u, v = .tuple #[u, .int .i64 (selE gs c how)] ∧ RInts I' u (selR gs c how)) ∧ δ' = []) := by
  refine Does.intro Tryz.func10 rfl Tryz.ntmps10 rfl fun w0 => ?_
  refine code_seq ?_
  refine code_region ?_
  refine op_v (v_assign rfl) rfl ?_
  refine op_v (v_assign rfl) rfl ?_
  refine ops_nil ?_
  refine post_next ?_
  refine code_seq ?_
  refine code_region ?_
  refine op_v (v_move rfl) rfl ?_
  refine op_v (v_move rfl) rfl ?_
  refine op_call pl27 rfl rfl ((RCheck10_does hg hv hsm)) Parts.none ?_
  rintro v11 I11 _ hI11 ⟨rfl, rfl⟩
  refine op_v (v_assign rfl) rfl ?_
  refine ops_nil ?_
  refine post_next ?_
  refine code_seq ?_
  refine code_seq ?_
  refine code_region ?_
  refine op_v (v_move rfl) rfl ?_
  by_cases h13 : chkC gs c ≠ 0
  · have he : selE gs c how = chkC gs c := if_pos h13
    refine op_v (v_cmptA rfl rfl rfl) rfl ?_
    refine ops_nil ?_
    refine post_next ?_
    refine code_cond_t rfl ?_
    refine code_seq ?_
    refine code_region ?_
    refine op_v (v_move rfl) rfl ?_
    refine op_v (v_assign rfl) rfl ?_
    refine op_v (v_assign rfl) rfl ?_
    refine ops_nil ?_
    refine post_next ?_
    refine code_ret ?_
    refine post_ret_then ?_
    refine post_ret (rs := [.tmp 6, .tmp 7]) rfl (List.Perm.refl _) (.cons (.tmp rfl) (.cons (.tmp rfl) .nil)) (List.nil_sublist _) ?_
    exact ⟨⟨_, by rw [he]; rfl, by unfold selR; rw [he, if_neg h13]; exact RInts.nil _⟩, rfl⟩
  · refine op_v (v_cmpfA rfl rfl rfl) rfl ?_
    refine ops_nil ?_
    refine post_next ?_
    refine code_cond_f rfl ?_
    refine code_skip ?_
    refine post_next ?_
    refine code_seq ?_
    refine code_seq ?_
    refine code_region ?_
    refine op_v (v_move rfl) rfl ?_
    by_cases h16 : how < 0
    · have he : selE gs c how = 1 := by unfold selE; rw [if_neg h13, if_pos (.inl h16)]
      refine op_v (v_cmptA rfl rfl rfl) rfl ?_
      refine op_v (v_move rfl) rfl ?_
      refine op_skip rfl rfl (by simp [undef]) rfl ?_
      refine op_skip rfl rfl (by simp [undef]) rfl ?_
      refine op_v (v_pickt rfl rfl) rfl ?_
      refine ops_nil ?_
      refine post_next ?_
      refine code_cond_t rfl ?_
      refine code_seq ?_
      refine code_region ?_
      refine op_v (v_assign rfl) rfl ?_
      refine op_v (v_assign rfl) rfl ?_
      refine ops_nil ?_
      refine post_next ?_
      refine code_ret ?_
      refine post_ret_then ?_
      refine post_ret (rs := [.tmp 6, .tmp 7]) rfl (List.Perm.refl _) (.cons (.tmp rfl) (.cons (.tmp rfl) .nil)) (List.nil_sublist _) ?_
      exact ⟨⟨_, by rw [he]; rfl, by unfold selR; rw [he, if_neg (by decide)]; exact RInts.nil _⟩, rfl⟩
    · refine op_v (v_cmpfA rfl rfl rfl) rfl ?_
      refine op_v (v_move rfl) rfl ?_
      refine op_want rfl rfl ?_
      refine op_v (v_move rfl) rfl ?_
      by_cases h19 : 2 < how
      · have he : selE gs c how = 1 := by unfold selE; rw [if_neg h13, if_pos (.inr (by omega))]
        first
          | (refine op_want rfl rfl ?_
             refine op_v (v_cmptA rfl rfl rfl) rfl ?_)
          | (refine op_skip rfl rfl (by simp [undef]) rfl ?_)
        refine op_v (v_pickf rfl rfl) rfl ?_
        refine ops_nil ?_
        refine post_next ?_
        refine code_cond_t rfl ?_
        refine code_seq ?_
        refine code_region ?_
        refine op_v (v_assign rfl) rfl ?_
        refine op_v (v_assign rfl) rfl ?_
        refine ops_nil ?_
        refine post_next ?_
        refine code_ret ?_
        refine post_ret_then ?_
        refine post_ret (rs := [.tmp 6, .tmp 7]) rfl (List.Perm.refl _) (.cons (.tmp rfl) (.cons (.tmp rfl) .nil)) (List.nil_sublist _) ?_
        exact ⟨⟨_, by rw [he]; rfl, by unfold selR; rw [he, if_neg (by decide)]; exact RInts.nil _⟩, rfl⟩
      · have he : selE gs c how = 0 := by unfold selE; rw [if_neg h13, if_neg (fun h => by rcases h with h | h <;> omega)]
        first
          | (refine op_want rfl rfl ?_
             refine op_v (v_cmpfA rfl rfl rfl) rfl ?_)
          | (refine op_skip rfl rfl (by simp [undef]) rfl ?_)
        refine op_v (v_pickf rfl rfl) rfl ?_
        refine ops_nil ?_
        refine post_next ?_
        refine code_cond_f rfl ?_
        refine code_skip ?_
        refine post_next ?_
        refine code_seq ?_
        refine code_region ?_
        refine op_v (v_move rfl) rfl ?_
        refine op_v (v_move rfl) rfl ?_
        refine op_v (v_move rfl) rfl ?_
        refine op_call pl32 rfl rfl ((RPicked_does (hg.mono Imm.leA) (hv.mono Imm.leA) (Classical.not_not.1 h13))) Parts.none ?_
        rintro v24 I24 _ hI24 ⟨hv24, rfl⟩
        refine op_v (v_assign rfl) rfl ?_
        refine op_v (v_assign rfl) rfl ?_
        refine ops_nil ?_
        refine post_next ?_
        refine code_ret ?_
        refine post_ret (rs := [.tmp 6, .tmp 7]) rfl (List.Perm.refl _) (.cons (.tmp rfl) (.cons (.tmp rfl) .nil)) (List.nil_sublist _) ?_
        exact ⟨⟨_, by rw [he]; rfl, by unfold selR; rw [he, if_pos rfl]; exact hv24⟩, rfl⟩
theorem InU_does {I : Imm} {v : Value} {xs : List Int} {x : Int} (hv : RInts I v xs) :
    Does Tryz.prog 36 [.int .i64 x, v] I [] (fun v _ δ' => v = .bool (decide (x ∈ xs)) ∧ δ' = []) := by
  obtain ⟨ad, c, xs, hc, hb, hat, hr⟩ := hv
  refine Does.intro Tryz.func36 rfl Tryz.ntmps36 rfl fun w0 => ?_
  refine code_seq ?_
  refine code_region ?_
  refine op_v (v_assign rfl) rfl ?_
  refine ops_nil ?_
  refine post_next ?_
  refine code_seq ?_
  refine code_seq ?_
  refine code_region ?_
  refine op_v (v_assign rfl) rfl ?_
  refine ops_nil ?_
  refine post_next ?_
  refine code_block ?_
  refine code_loop (fun m σ' I' δ' => ∃ k : Nat, m = xs.length - k ∧ σ' = [(0, .int .i64 x), (1, .slice ad xs.length c), (5, .int .i64 k)] ∧ I' = I ∧ δ' = ([] : List Ent) ∧ k ≤ xs.length ∧ x ∉ xs.take k) (xs.length - 0) [(0, .int .i64 x), (1, .slice ad xs.length c), (5, .int .i64 (0 : Nat))] ⟨0, rfl, rfl, rfl, rfl, ⟨Nat.zero_le _, by simp⟩⟩ ⟨rfl, rfl, rfl, trivial⟩ ?_
  rintro m _ _ _ ⟨k, rfl, rfl, rfl, rfl, hp⟩
  obtain ⟨hk, hp⟩ := hp
  refine code_seq ?_
  refine code_seq ?_
  refine code_region ?_
  refine op_v (v_move rfl) rfl ?_
  refine op_v (v_move rfl) rfl ?_
  refine op_v (v_len Tryz.underlying30 rfl) rfl ?_
  refine op_v (v_cmp rfl rfl rfl) rfl ?_
  refine ops_nil ?_
  refine post_next ?_
  refine code_cond rfl (fun hc0 => ?_) (fun hc0 => ?_)
  · have hlt : k < xs.length := by simpa using hc0
    have hs1 := ints_some hat k hlt
    refine code_skip ?_
    refine post_next ?_
    refine code_seq ?_
    refine code_block ?_
    refine code_seq ?_
    refine code_region ?_
    refine op_v (v_move rfl) rfl ?_
    refine op_v (v_move rfl) rfl ?_
    refine op_v (v_indexA Tryz.underlying30 sz3 rfl rfl) rfl ?_
    refine op_v (v_loadI0 ty3 ((ints_at hat k hlt)) rfl rfl rfl) rfl ?_
    refine op_v (v_move rfl) rfl ?_
    refine op_v (v_cmp rfl rfl rfl) rfl ?_
    refine ops_nil ?_
    refine post_next ?_
    refine code_cond rfl (fun hc1 => ?_) (fun hc1 => ?_)
    · have heq : xs[k] = x := by simpa using hc1
      refine code_seq ?_
      refine code_region ?_
      refine op_v (v_assign rfl) rfl ?_
      refine ops_nil ?_
      refine post_next ?_
      refine code_ret ?_
      refine post_ret_block ?_
      refine post_ret_then ?_
      refine post_ret_then ?_
      refine post_ret_block ?_
      refine post_ret_then ?_
      refine post_ret (rs := [.tmp 4]) rfl (List.Perm.refl _) (.cons (.tmp rfl) .nil) (List.nil_sublist _) ?_
      exact ⟨by rw [show decide (x ∈ xs) = true by simp [← heq]]; rfl, rfl⟩
    · have hne : x ≠ xs[k] := by have h := hc1; simp at h; exact fun e => h e.symm
      refine code_skip ?_
      refine post_out ?_
      refine post_next ?_
      refine code_region ?_
      refine op_v (v_move rfl) rfl ?_
      refine op_v (v_addb rfl rfl rfl (by omega)) rfl ?_
      refine op_v (v_assign rfl) rfl ?_
      refine ops_nil ?_
      refine post_again (xs.length - (k + 1)) [(0, .int .i64 x), (1, .slice ad xs.length c), (5, .int .i64 (k + 1 : Nat))] (by omega) ⟨k + 1, rfl, rfl, rfl, rfl, ⟨hlt, by rw [List.take_succ_eq_append_getElem hlt, List.mem_append, List.mem_singleton]; exact fun h => h.elim hp hne⟩⟩ ⟨rfl, rfl, rfl, trivial⟩
  · have hge : k = xs.length := by simp at hc0; omega
    subst hge
    rw [List.take_length] at hp
    refine code_exit ?_
    refine post_exit_then ?_
    refine post_exit_then ?_
    refine post_exit ?_
    refine post_next ?_
    refine code_seq ?_
    refine code_region ?_
    refine op_v (v_assign rfl) rfl ?_
    refine ops_nil ?_
    refine post_next ?_
    refine code_ret ?_
    refine post_ret (rs := [.tmp 4]) rfl (List.Perm.refl _) (.cons (.tmp rfl) .nil) (List.nil_sublist _) ?_
    exact ⟨by rw [show decide (x ∈ xs) = false by simp [hp]]; rfl, rfl⟩
theorem RMay_does {I : Imm} {vg va vs : Value} {gs : List Sy} {c : List Li} {how i : Int} {bs : List Bi} (hg : RepG I vg gs) (hv : RepC I va c) (hs : RepB I vs bs) (hbs : ∀ b ∈ bs, b.2.size ≤ 500) (hsz : ∀ x ∈ c, x.l.size ≤ 500 ∧ x.r.size ≤ 500) :
    Does Tryz.prog 12 [vg, va, .int .i64 how, .int .i64 i, vs] I [] (fun v _ δ' => (∃ b e, v = .tuple #[.bool b, .int .i64 e] ∧ MayH gs c how i bs b e) ∧ δ' = []) := by
  have hsm : SmC c := fun x hx => by have := hsz x hx; omega
  obtain ⟨ad, c0, xs, rfl, hc, hb, hcells, hrow⟩ := id hv
  refine Does.intro Tryz.func12 rfl Tryz.ntmps12 rfl fun w0 => ?_
  refine code_seq ?_
  refine code_region ?_
  refine op_v (v_assign rfl) rfl ?_
  refine op_v (v_assign rfl) rfl ?_
  refine ops_nil ?_
  refine post_next ?_
  refine code_seq ?_
  refine code_region ?_
  refine op_v (v_move rfl) rfl ?_
  refine op_v (v_move rfl) rfl ?_
  refine op_v (v_move rfl) rfl ?_
  refine op_call pl10 rfl rfl ((RSelect_does hg hv hsm)) Parts.none ?_
  rintro v21 I21 _ hI21 ⟨⟨u21, rfl, hu21⟩, rfl⟩
  refine op_v (v_move rfl) rfl ?_
  refine op_v (v_extract rfl rfl) rfl ?_
  refine op_v (v_extract rfl rfl) rfl ?_
  refine op_v (v_assign rfl) rfl ?_
  refine op_v (v_assign rfl) rfl ?_
  refine ops_nil ?_
  refine post_next ?_
  refine code_seq ?_
  refine code_seq ?_
  refine code_region ?_
  refine op_v (v_move rfl) rfl ?_
  by_cases h25 : selE gs c how ≠ 0
  · refine op_v (v_cmptA rfl rfl rfl) rfl ?_
    refine ops_nil ?_
    refine post_next ?_
    refine code_cond_t rfl ?_
    refine code_seq ?_
    refine code_region ?_
    refine op_v (v_move rfl) rfl ?_
    refine op_v (v_assign rfl) rfl ?_
    refine op_v (v_assign rfl) rfl ?_
    refine ops_nil ?_
    refine post_next ?_
    refine code_ret ?_
    refine post_ret_then ?_
    refine post_ret (rs := [.tmp 10, .tmp 11]) rfl (List.Perm.refl _) (.cons (.tmp rfl) (.cons (.tmp rfl) .nil)) (List.nil_sublist _) ?_
    exact ⟨⟨_, _, rfl, .inl ⟨h25, rfl, rfl⟩⟩, rfl⟩
  · have he : selE gs c how = 0 := Classical.not_not.1 h25
    unfold selR at hu21
    rw [if_pos he] at hu21
    refine op_v (v_cmpfA rfl rfl rfl) rfl ?_
    refine ops_nil ?_
    refine post_next ?_
    refine code_cond_f rfl ?_
    refine code_skip ?_
    refine post_next ?_
    refine code_seq ?_
    refine code_seq ?_
    refine code_region ?_
    refine op_v (v_move rfl) rfl ?_
    by_cases h28 : i < 0
    · refine op_v (v_cmptA rfl rfl rfl) rfl ?_
      refine op_v (v_move rfl) rfl ?_
      refine op_skip rfl rfl (by simp [undef]) rfl ?_
      refine op_skip rfl rfl (by simp [undef]) rfl ?_
      refine op_skip rfl rfl (by simp [undef]) rfl ?_
      refine op_skip rfl rfl (by simp [undef]) rfl ?_
      refine op_v (v_pickt rfl rfl) rfl ?_
      refine ops_nil ?_
      refine post_next ?_
      refine code_cond_t rfl ?_
      refine code_seq ?_
      refine code_region ?_
      refine op_v (v_assign rfl) rfl ?_
      refine op_v (v_assign rfl) rfl ?_
      refine ops_nil ?_
      refine post_next ?_
      refine code_ret ?_
      refine post_ret_then ?_
      refine post_ret (rs := [.tmp 10, .tmp 11]) rfl (List.Perm.refl _) (.cons (.tmp rfl) (.cons (.tmp rfl) .nil)) (List.nil_sublist _) ?_
      exact ⟨⟨_, _, rfl, .inr ⟨he, .inl ⟨.inl h28, rfl, rfl⟩⟩⟩, rfl⟩
    · refine op_v (v_cmpfA rfl rfl rfl) rfl ?_
      refine op_v (v_move rfl) rfl ?_
      refine op_want rfl rfl ?_
      refine op_v (v_move rfl) rfl ?_
      refine op_want rfl rfl ?_
      refine op_v (v_move rfl) rfl ?_
      refine op_want rfl rfl ?_
      refine op_v (v_len Tryz.underlying23 rfl) rfl ?_
      by_cases h33 : (c.length : Int) ≤ i
      · first
          | (refine op_want rfl rfl ?_
             refine op_v (v_cmptA rfl rfl rfl) rfl ?_)
          | (refine op_skip rfl rfl (by simp [undef]) rfl ?_)
        refine op_v (v_pickf rfl rfl) rfl ?_
        refine ops_nil ?_
        refine post_next ?_
        refine code_cond_t rfl ?_
        refine code_seq ?_
        refine code_region ?_
        refine op_v (v_assign rfl) rfl ?_
        refine op_v (v_assign rfl) rfl ?_
        refine ops_nil ?_
        refine post_next ?_
        refine code_ret ?_
        refine post_ret_then ?_
        refine post_ret (rs := [.tmp 10, .tmp 11]) rfl (List.Perm.refl _) (.cons (.tmp rfl) (.cons (.tmp rfl) .nil)) (List.nil_sublist _) ?_
        exact ⟨⟨_, _, rfl, .inr ⟨he, .inl ⟨.inr h33, rfl, rfl⟩⟩⟩, rfl⟩
      · have hin : ¬ (i < 0 ∨ (c.length : Int) ≤ i) := fun h => by rcases h with h | h; exact h28 h; exact h33 h
        obtain ⟨n, hn⟩ := Int.eq_ofNat_of_zero_le (show 0 ≤ i by omega)
        subst hn
        have hnl : n < c.length := by omega
        obtain ⟨vn, ⟨la, lc, ra, rc, rfl, hnL, hnR⟩, hatn⟩ := hrow.cellsAt hcells hnl
        have hs1 := hatn.isSome
        first
          | (refine op_want rfl rfl ?_
             refine op_v (v_cmpfA rfl rfl rfl) rfl ?_)
          | (refine op_skip rfl rfl (by simp [undef]) rfl ?_)
        refine op_v (v_pickf rfl rfl) rfl ?_
        refine ops_nil ?_
        refine post_next ?_
        refine code_cond_f rfl ?_
        refine code_skip ?_
        refine post_next ?_
        refine code_seq ?_
        refine code_region ?_
        refine op_v (v_move rfl) rfl ?_
        refine op_v (v_move rfl) rfl ?_
        refine op_call pl35 rfl rfl ((RApply10_does (hs.mono Imm.leA) (hv.mono Imm.leA) hbs hsz)) Parts.none ?_
        rintro v38 I38 _ hI38 ⟨⟨e1, d, r38, rfl, hr38, ho⟩, rfl⟩
        have hdm := ho.sm
        refine op_v (v_move rfl) rfl ?_
        refine op_v (v_extract rfl rfl) rfl ?_
        refine op_v (v_extract rfl rfl) rfl ?_
        refine op_v (v_assign rfl) rfl ?_
        refine op_v (v_assign rfl) rfl ?_
        refine ops_nil ?_
        refine post_next ?_
        refine code_seq ?_
        refine code_seq ?_
        refine code_region ?_
        refine op_v (v_move rfl) rfl ?_
        by_cases h42 : e1 ≠ 0
        · refine op_v (v_cmptA rfl rfl rfl) rfl ?_
          refine ops_nil ?_
          refine post_next ?_
          refine code_cond_t rfl ?_
          refine code_seq ?_
          refine code_region ?_
          refine op_v (v_move rfl) rfl ?_
          refine op_v (v_assign rfl) rfl ?_
          refine op_v (v_assign rfl) rfl ?_
          refine ops_nil ?_
          refine post_next ?_
          refine code_ret ?_
          refine post_ret_then ?_
          refine post_ret (rs := [.tmp 10, .tmp 11]) rfl (List.Perm.refl _) (.cons (.tmp rfl) (.cons (.tmp rfl) .nil)) (List.nil_sublist _) ?_
          exact ⟨⟨_, _, rfl, .inr ⟨he, .inr ⟨hin, e1, d, ho, .inl ⟨h42, rfl, rfl⟩⟩⟩⟩, rfl⟩
        · have he1 : e1 = 0 := Classical.not_not.1 h42
          subst he1
          have hdl := ho.len0.1
          refine op_v (v_cmpfA rfl rfl rfl) rfl ?_
          refine ops_nil ?_
          refine post_next ?_
          refine code_cond_f rfl ?_
          refine code_skip ?_
          refine post_next ?_
          refine code_seq ?_
          refine code_region ?_
          refine op_v (v_move rfl) rfl ?_
          refine op_v (v_move rfl) rfl ?_
          refine op_call pl27 rfl rfl ((RCheck10_does (hg.mono Imm.leA) hr38 hdm)) Parts.none ?_
          rintro v46 I46 _ hI46 ⟨rfl, rfl⟩
          refine op_v (v_assign rfl) rfl ?_
          refine ops_nil ?_
          refine post_next ?_
          refine code_seq ?_
          refine code_seq ?_
          refine code_region ?_
          refine op_v (v_move rfl) rfl ?_
          by_cases h48 : chkC gs d ≠ 0
          · refine op_v (v_cmptA rfl rfl rfl) rfl ?_
            refine ops_nil ?_
            refine post_next ?_
            refine code_cond_t rfl ?_
            refine code_seq ?_
            refine code_region ?_
            refine op_v (v_move rfl) rfl ?_
            refine op_v (v_assign rfl) rfl ?_
            refine op_v (v_assign rfl) rfl ?_
            refine ops_nil ?_
            refine post_next ?_
            refine code_ret ?_
            refine post_ret_then ?_
            refine post_ret (rs := [.tmp 10, .tmp 11]) rfl (List.Perm.refl _) (.cons (.tmp rfl) (.cons (.tmp rfl) .nil)) (List.nil_sublist _) ?_
            exact ⟨⟨_, _, rfl, .inr ⟨he, .inr ⟨hin, 0, d, ho, .inr ⟨rfl, .inl ⟨h48, rfl, rfl⟩⟩⟩⟩⟩, rfl⟩
          · have hd0 : chkC gs d = 0 := Classical.not_not.1 h48
            obtain ⟨ua, uc, hsh⟩ := hu21.shape
            subst hsh
            refine op_v (v_cmpfA rfl rfl rfl) rfl ?_
            refine ops_nil ?_
            refine post_next ?_
            refine code_cond_f rfl ?_
            refine code_skip ?_
            refine post_next ?_
            refine code_seq ?_
            refine code_seq ?_
            refine code_region ?_
            refine op_v (v_move rfl) rfl ?_
            refine op_v (v_len Tryz.underlying30 rfl) rfl ?_
            by_cases h52 : 0 < (selG gs c how).length
            · refine op_v (v_cmptA rfl rfl rfl) rfl ?_
              refine ops_nil ?_
              refine post_next ?_
              refine code_cond_t rfl ?_
              refine code_seq ?_
              refine code_region ?_
              refine op_v (v_move rfl) rfl ?_
              refine op_v (v_move rfl) rfl ?_
              refine op_call pl36 rfl rfl ((InU_does (hu21.mono Imm.leA) (x := (n : Int)))) Parts.none ?_
              rintro v55 I55 _ hI55 ⟨rfl, rfl⟩
              refine op_v (v_assign rfl) rfl ?_
              refine op_v (v_assign rfl) rfl ?_
              refine ops_nil ?_
              refine post_next ?_
              refine code_ret ?_
              refine post_ret_then ?_
              refine post_ret (rs := [.tmp 10, .tmp 11]) rfl (List.Perm.refl _) (.cons (.tmp rfl) (.cons (.tmp rfl) .nil)) (List.nil_sublist _) ?_
              exact ⟨⟨_, _, rfl, .inr ⟨he, .inr ⟨hin, 0, d, ho, .inr ⟨rfl, .inr ⟨hd0, rfl, by unfold mayB; rw [if_pos h52]⟩⟩⟩⟩⟩, rfl⟩
            · refine op_v (v_cmpfA rfl rfl rfl) rfl ?_
              refine ops_nil ?_
              refine post_next ?_
              refine code_cond_f rfl ?_
              refine code_skip ?_
              refine post_next ?_
              refine code_seq ?_
              refine code_region ?_
              refine op_v (v_move rfl) rfl ?_
              refine op_v (v_move rfl) rfl ?_
              refine op_v (v_move rfl) rfl ?_
              refine op_v (v_move rfl) rfl ?_
              refine op_v (v_move rfl) rfl ?_
              refine op_v (v_indexA Tryz.underlying23 sz59 rfl rfl) rfl ?_
              refine op_v (v_fieldI 0 Tryz.underlying59 rfl rfl fz4 rfl (by assumption)) rfl ?_
              refine op_v (v_loadI0 ty4 (hatn.mono Imm.leA) rfl rfl rfl) rfl ?_
              refine op_v (v_not rfl) rfl ?_
              refine op_call pl28 rfl rfl ((RTop_does (i := n) (s := !c[n].neg) (hg.mono Imm.leA) (hr38.mono Imm.leA) hd0 (by omega))) Parts.none ?_
              rintro v65 I65 _ hI65 ⟨rfl, rfl⟩
              refine op_v (v_assign rfl) rfl ?_
              refine op_v (v_assign rfl) rfl ?_
              refine ops_nil ?_
              refine post_next ?_
              refine code_ret ?_
              refine post_ret (rs := [.tmp 10, .tmp 11]) rfl (List.Perm.refl _) (.cons (.tmp rfl) (.cons (.tmp rfl) .nil)) (List.nil_sublist _) ?_
              exact ⟨⟨_, _, rfl, .inr ⟨he, .inr ⟨hin, 0, d, ho, .inr ⟨rfl, .inr ⟨hd0, rfl, by unfold mayB; rw [if_neg h52, Int.toNat_natCast, getD_at hnl]⟩⟩⟩⟩⟩, rfl⟩
end Go.Proofs.YtdbadicpbmndbaaGreat
/- What a row's reading of its arguments says of the heap; plain facts, no condition. -/
set_option linter.unusedVariables false
set_option linter.unusedSimpArgs false
namespace Go.Proofs.YtdbadicpbmndbaaGreat
open Go Lg Go.ChangeShapes Go.WideShapes Go.ChangeAt Go.RowKit

/-- the whole heap, as what is only read -/
def hImm (w : World) : Imm := fun b => w.heap[b]?
theorem hSat (w : World) : Sat w (hImm w) [] := ⟨fun _ _ h => h, fun x hx => by simp at hx, by simp [blks], fun b hb => by simp [blks] at hb⟩
theorem wf_in {n : Int} (h : (Lit.int .i64 n).wf = true) : InR n := by
  simp only [Lit.wf, Bool.and_eq_true, decide_eq_true_eq] at h
  have h1 : IntKind.i64.min = -9223372036854775808 := by decide
  have h2 : IntKind.i64.max = 9223372036854775807 := by decide
  unfold InR; omega

variable {H : Type} {enc : TypeId × Value → H} {P : Program} {W : World} {spare : Nat → Bool} {held : Bool}

theorem weights_at {ts : List TypeId} {ds : List (DataW H)} (h : (DataW.weightsEach P ts ds).all (· ≤ reachBytes) = true) : ∀ (j : Nat) (t : TypeId) (d : DataW H), ts[j]? = some t → ds[j]? = some d → (d.weights P t).all (· ≤ reachBytes) = true := by
  induction ts generalizing ds with
  | nil => intro j t d ht; simp at ht
  | cons t0 ts ih =>
    cases ds with
    | nil => intro j t d _ hd; simp at hd
    | cons d0 ds =>
      simp only [DataW.weightsEach, List.all_append, Bool.and_eq_true] at h
      intro j t d ht hd
      cases j with
      | zero => simp at ht hd; subst ht; subst hd; exact h.1
      | succ j => exact ih h.2 j t d (by simpa using ht) (by simpa using hd)
theorem weights_all {e : TypeId} {ds : List (DataW H)} (h : (DataW.weightsAll P e ds).all (· ≤ reachBytes) = true) : ∀ d ∈ ds, (d.weights P e).all (· ≤ reachBytes) = true := by
  induction ds with
  | nil => intro d hd; cases hd
  | cons d0 ds ih =>
    simp only [DataW.weightsAll, List.all_append, Bool.and_eq_true] at h
    intro d hd
    rcases List.mem_cons.1 hd with rfl | hd
    · exact h.1
    · exact ih h.2 d hd

theorem openI {t e : TypeId} {a : Option Addr} {len cap : Nat} {d : DataW H} {ps : List MemPlace} (ht : P.underlying t = some (.slice e)) (he : P.underlying e = some (.int .i64)) (hc : P.cellsOf e = 1) (hB : P.bytesOf e = 8)
    (h : DataW.Trod enc P W 0 spare held t (.slice a len cap) d ps) (hw : (d.weights P t).all (· ≤ reachBytes) = true) : ∃ xs, RInts (hImm W) (.slice a len cap) xs := by
  obtain ⟨fuel, hf⟩ := h
  rcases open_ints ht he hc hf with ⟨hcs, _⟩ | ⟨x, l, c, zs, hcs, _, hl, hm, hz, hx, hcell, hwz⟩
  · simp [Value.cells] at hcs
    obtain ⟨rfl, rfl, rfl⟩ := hcs
    exact ⟨[], RInts.nil _⟩
  · simp [Value.cells] at hcs
    obtain ⟨rfl, rfl, rfl⟩ := hcs
    obtain ⟨hx, _⟩ := Prod.mk.inj hx
    subst hx
    have hzl : len ≤ zs.length := by rw [hz]; split <;> omega
    have hlen : (zs.take len).length = len := by rw [List.length_take]; omega
    simp only [DataW.weights, ht, hB, List.all_cons, Bool.and_eq_true, decide_eq_true_eq] at hw
    have hb : len * 8 ≤ reachBytes := by
      refine Nat.le_trans ?_ hw.1
      simp [lits]; omega
    have hrb : reachBytes = 140737488351232 := rfl
    refine ⟨zs.take len, RInts.of hlen.symm hl (by omega) (fun j v hj => ?_) (fun y hy => wf_in (hwz y (List.mem_of_mem_take hy)))⟩
    have hjl : j < len := by have := (List.getElem?_eq_some_iff.1 hj).1; simp at this; omega
    have hc := hcell j (by omega)
    rw [List.map_take, List.getElem?_take_of_lt hjl] at hj
    have e : v = .int .i64 (zs.getD j 0) := by
      have hjz : j < zs.length := by omega
      simp [hjz] at hj
      simp [hjz, hj]
    subst e
    exact hc

theorem pick_list {α : Type} {n : Nat} {p : Nat → α → Prop} (h : ∀ i, i < n → ∃ a, p i a) : ∃ l : List α, l.length = n ∧ ∀ i (hi : i < l.length), p i l[i] := by
  induction n with
  | zero => exact ⟨[], rfl, fun i hi => by simp at hi⟩
  | succ n ih =>
    obtain ⟨l, h1, h2⟩ := ih fun i hi => h i (by omega)
    obtain ⟨a, ha⟩ := h n (by omega)
    refine ⟨l ++ [a], by simp [h1], fun i hi => ?_⟩
    by_cases hlt : i < l.length
    · rw [List.getElem_append_left hlt]; exact h2 i hlt
    · have e : i = l.length := by simp at hi; omega
      subst e
      simp [h1, ha]

theorem cells_two {a : Addr} {cs : List Value} (h : W.cells? 0 a 2 = some cs) : ∃ u v, cs = [u, v] ∧ W.cell? a = some u ∧ W.cell? (a.add 1) = some v := by
  simp only [World.cells?, Nat.zero_le, if_true] at h
  have hr : List.range 2 = [0, 1] := rfl
  rw [hr] at h
  simp only [List.mapM_cons, List.mapM_nil, Option.bind_eq_bind, Option.bind_eq_some_iff, Option.pure_def, Option.some.injEq] at h
  obtain ⟨u, hu, r, ⟨v, hv, r2, rfl, rfl⟩, rfl⟩ := h
  have ha : a.add 0 = a := by simp [Addr.add]
  rw [ha] at hu
  exact ⟨u, v, rfl, hu, hv⟩

/-- a struct of a number and a row of its own kind -/
structure TreeTy (P : Program) (tT tS tI : TypeId) : Prop where
  str : ∃ fs : Array Field, P.underlying tT = some (.struct fs) ∧ fs.size = 2 ∧ (∃ f0 f1 : Field, fs[0]? = some f0 ∧ fs[1]? = some f1 ∧ f0.type = tI ∧ f0.offset = 0 ∧ f1.type = tS ∧ f1.offset = 1 ∧ fs.toList.map (·.type) = [tI, tS])
  sl : P.underlying tS = some (.slice tT)
  int : P.underlying tI = some (.int .i64)
  cT : P.cellsOf tT = 2
  cS : P.cellsOf tS = 1
  cI : P.cellsOf tI = 1
  bT : P.bytesOf tT = 32

theorem openT {tT tS tI : TypeId} (ty : TreeTy P tT tS tI) : ∀ (fuel : Nat) (cs : List Value) (d : DataW H) (ps : List MemPlace), DataW.trod enc P W 0 spare held fuel tT cs = some (d, ps) → (d.weights P tT).all (· ≤ reachBytes) = true →
    ∃ (s : Value) (t : T), cs = [.int .i64 t.head, s] ∧ RepT (hImm W) (.agg #[.int .i64 t.head, s]) t := by
  intro fuel
  induction fuel using Nat.strongRecOn with
  | _ fuel ih =>
    intro cs d ps h hw
    obtain ⟨fs, hfs, hsz, f0, f1, hf0, hf1, ht0, ho0, ht1, ho1, hts⟩ := ty.str
    obtain ⟨xs, n, rfl, hx, hcl, hxl, hxs⟩ := DataW.trod_struct hfs h
    rw [ty.cT] at hcl
    obtain ⟨u, v, rfl⟩ : ∃ u v, cs = [u, v] := by
      rcases cs with _ | ⟨u, _ | ⟨v, _ | ⟨_, _⟩⟩⟩
      · simp at hcl
      · simp at hcl
      · exact ⟨u, v, rfl⟩
      · simp at hcl
    have h0 := hxs 0 f0 hf0
    have h1 := hxs 1 f1 hf1
    rw [ht0, ho0, ty.cI] at h0
    rw [ht1, ho1, ty.cS] at h1
    simp only [List.drop_zero, List.drop_succ_cons, List.take_succ_cons, List.take_zero] at h0 h1
    rw [hsz] at hxl
    obtain ⟨x0, x1, rfl⟩ : ∃ x0 x1, xs = [x0, x1] := by
      rcases xs with _ | ⟨u, _ | ⟨v, _ | ⟨_, _⟩⟩⟩
      · simp at hxl
      · simp at hxl
      · exact ⟨u, v, rfl⟩
      · simp at hxl
    simp only [List.getElem?_cons_zero, List.getElem?_cons_succ] at h0 h1
    obtain ⟨m, hm, _, hwf⟩ := DataW.trod_int ty.int h0
    simp only [List.cons.injEq, and_true] at hm
    subst hm
    simp only [Prod.mk.injEq] at hx
    obtain ⟨rfl, _⟩ := hx
    simp only [DataW.weights, hfs, hts, List.map_cons, List.map_nil, DataW.weightsEach, List.all_append, Bool.and_eq_true] at hw
    have hw1 := hw.2.1
    rcases DataW.trod_slice ty.sl h1 with ⟨hcs, _⟩ | ⟨a, len, cap, elems, rest, n', rfl, hcs, rfl, _, hl, hm, hlen, hel, hsp, _⟩
    · simp only [List.cons.injEq, and_true] at hcs
      subst hcs
      exact ⟨_, .mk m [], rfl, RepT.mk _ (.mk m []) (wf_in hwf) (RepS.nil _)⟩
    · simp only [List.cons.injEq, and_true] at hcs
      subst hcs
      simp only [DataW.weights, ty.sl, ty.bT, List.all_cons, List.all_append, Bool.and_eq_true, decide_eq_true_eq] at hw1
      obtain ⟨hwl, hwe, _⟩ := hw1
      have hwe' := weights_all hwe
      have hrb : reachBytes = 140737488351232 := rfl
      simp only [List.length_map, hlen] at hwl
      have hall : ∀ i, i < len → ∃ t : T, ∃ s : Option Addr × Nat, At (hImm W) (some a) (i * 2) [.int .i64 t.head, .slice s.1 t.args.length s.2] ∧ RepT (hImm W) (.agg #[.int .i64 t.head, .slice s.1 t.args.length s.2]) t := by
        intro i hi
        have hy := hel i hi
        rw [ty.cT] at hy
        have hie : elems[i]? = some elems[i] := List.getElem?_eq_getElem (by omega)
        rw [hie, Option.bind_eq_some_iff] at hy
        obtain ⟨cs, hcs, htr⟩ := hy
        obtain ⟨u, v, rfl, hu, hv⟩ := cells_two hcs
        obtain ⟨s, t, he, hr⟩ := ih n' (by omega) _ elems[i].1 elems[i].2 htr (hwe' _ (List.mem_map.2 ⟨_, List.getElem_mem (by omega), rfl⟩))
        obtain ⟨sa, sc, hsh, _⟩ := hr.shape
        have hs : s = .slice sa t.args.length sc := by simpa using hsh
        subst hs
        simp only [List.cons.injEq, and_true] at he
        obtain ⟨rfl, rfl⟩ := he
        refine ⟨t, (sa, sc), fun j x hj => ?_, hr⟩
        rcases j with _ | _ | j
        · simp at hj; subst hj; exact hu
        · simp at hj; subst hj
          show W.cell? (a.add (i * 2 + 1)) = _
          rw [← add_add]; exact hv
        · simp at hj
      obtain ⟨ts, htl, hts2⟩ := pick_list hall
      have hss : ∃ ss : Nat → Option Addr × Nat, ∀ i (hi : i < ts.length), At (hImm W) (some a) (i * 2) [.int .i64 ts[i].head, .slice (ss i).1 ts[i].args.length (ss i).2] ∧ RepT (hImm W) (.agg #[.int .i64 ts[i].head, .slice (ss i).1 ts[i].args.length (ss i).2]) ts[i] := by
        classical
        exact ⟨fun i => if hi : i < ts.length then (hts2 i hi).choose else (none, 0), fun i hi => by simp only [dif_pos hi]; exact (hts2 i hi).choose_spec⟩
      obtain ⟨ss, hss⟩ := hss
      subst htl
      exact ⟨_, .mk m ts, rfl, RepT.intro ss (wf_in hwf) hl (by omega) (fun i hi => (hss i hi).1) (fun i hi => (hss i hi).2)⟩

theorem openTv {tT tS tI : TypeId} (ty : TreeTy P tT tS tI) {v : Value} {d : DataW H} {ps : List MemPlace} (h : DataW.Trod enc P W 0 spare held tT v d ps) (hw : (d.weights P tT).all (· ≤ reachBytes) = true) (hv : ∃ cs, v = .agg cs ∧ cs.size = P.cellsOf tT) : ∃ t, RepT (hImm W) v t := by
  obtain ⟨fuel, hf⟩ := h
  obtain ⟨s, t, hc, hr⟩ := openT ty fuel _ d ps hf hw
  obtain ⟨cs, rfl, _⟩ := hv
  have e : cs = #[.int .i64 t.head, s] := by
    apply Array.ext'
    simpa [Value.cells] using hc
  subst e
  exact ⟨t, hr⟩
theorem tr_below {w w' : World} {I I' : Imm} {δ' : List Ent} (h : Tr w I [] w' I' δ') : Below w.heap.size w w' := ⟨h.os, h.tape, h.output, h.size, fun k hk => h.same k hk (by simp [blks])⟩
end Go.Proofs.YtdbadicpbmndbaaGreat
/- What a row's reading of a signature, and of a name, says of the heap; plain facts, no condition. -/
set_option linter.unusedVariables false
set_option linter.unusedSimpArgs false
namespace Go.Proofs.YtdbadicpbmndbaaGreat
open Go Lg Go.ChangeShapes Go.WideShapes Go.ChangeAt Go.RowKit
variable {H : Type} {enc : TypeId × Value → H} {P : Program} {W : World} {spare : Nat → Bool} {held : Bool}
theorem cells_all {a : Addr} {n : Nat} {cs : List Value} (h : W.cells? 0 a n = some cs) : cs.length = n ∧ ∀ j v, cs[j]? = some v → W.cell? (a.add j) = some v := by
  simp only [World.cells?, Nat.zero_le, if_true] at h
  have key : ∀ (l : List Nat) (cs : List Value), l.mapM (fun i => W.cell? (a.add i)) = some cs → cs.length = l.length ∧ ∀ (j : Nat) (v : Value), cs[j]? = some v → ∃ i : Nat, l[j]? = some i ∧ W.cell? (a.add i) = some v := by
    intro l
    induction l with
    | nil => intro cs h; simp at h; subst h; exact ⟨rfl, fun j v h => by simp at h⟩
    | cons i l ih =>
      intro cs h
      simp only [List.mapM_cons, Option.bind_eq_bind, Option.bind_eq_some_iff, Option.pure_def, Option.some.injEq] at h
      obtain ⟨u, hu, r, hr, rfl⟩ := h
      obtain ⟨h1, h2⟩ := ih r hr
      refine ⟨by simp [h1], fun j v hj => ?_⟩
      cases j with
      | zero => simp at hj; subst hj; exact ⟨i, rfl, hu⟩
      | succ j => simpa using h2 j v (by simpa using hj)
  obtain ⟨h1, h2⟩ := key _ _ h
  refine ⟨by simpa using h1, fun j v hj => ?_⟩
  obtain ⟨i, hi, hc⟩ := h2 j v hj
  have hlt : j < n := by have := (List.getElem?_eq_some_iff.1 hi).1; simpa using this
  rw [List.getElem?_range hlt] at hi
  cases hi
  exact hc

structure SyLay (P : Program) (tS tG ts ti tb : TypeId) : Prop where
  ty : SyTy P tG ts ti tb
  sl : P.underlying tS = some (.slice tG)
  cG : P.cellsOf tG = 4
  cs : P.cellsOf ts = 1
  ci : P.cellsOf ti = 1
  cb : P.cellsOf tb = 1
  bG : P.bytesOf tG = 40
theorem openSy {tS tG ts ti tb : TypeId} (ly : SyLay P tS tG ts ti tb) {fuel : Nat} {cs : List Value} {x : DataW H × List MemPlace} (h : DataW.trod enc P W 0 spare held fuel tG cs = some x) : ∃ s : Sy, cs = s.cs ∧ s.ok := by
  obtain ⟨f0, f1, f2, f3, hs, ⟨e1, e2, e3⟩, ⟨g1, g2, g3⟩, ⟨h1, h2, h3⟩, k1, k2, k3⟩ := ly.ty.str
  obtain ⟨xs, n, rfl, hx, hcl, hxl, hxs⟩ := DataW.trod_struct hs h
  rw [ly.cG] at hcl
  obtain ⟨a, b, c, d, rfl⟩ : ∃ a b c d, cs = [a, b, c, d] := by
    rcases cs with _ | ⟨a, _ | ⟨b, _ | ⟨c, _ | ⟨d, _ | ⟨_, _⟩⟩⟩⟩⟩ <;> simp at hcl
    exact ⟨a, b, c, d, rfl⟩
  have q0 := hxs 0 f0 rfl
  have q1 := hxs 1 f1 rfl
  have q2 := hxs 2 f2 rfl
  have q3 := hxs 3 f3 rfl
  have hx4 : xs.length = 4 := hxl
  rw [List.getElem?_eq_getElem (by omega), e1, e2, ly.cs] at q0
  rw [List.getElem?_eq_getElem (by omega), g1, g2, ly.ci] at q1
  rw [List.getElem?_eq_getElem (by omega), h1, h2, ly.ci] at q2
  rw [List.getElem?_eq_getElem (by omega), k1, k2, ly.cb] at q3
  obtain ⟨s0, z0, _, w0⟩ := DataW.trod_string ly.ty.us q0
  obtain ⟨s1, z1, _, w1⟩ := DataW.trod_int ly.ty.ui q1
  obtain ⟨s2, z2, _, w2⟩ := DataW.trod_int ly.ty.ui q2
  obtain ⟨s3, z3, _⟩ := DataW.trod_bool ly.ty.ub q3
  simp at z0 z1 z2 z3
  subst z0; subst z1; subst z2; subst z3
  exact ⟨⟨s0, s1, s2, s3⟩, rfl, wf_in w1, wf_in w2, w0⟩
theorem openGv {tS tG ts ti tb : TypeId} (ly : SyLay P tS tG ts ti tb) {v : Value} {d : DataW H} {ps : List MemPlace} (h : DataW.Trod enc P W 0 spare held tS v d ps) (hw : (d.weights P tS).all (· ≤ reachBytes) = true) (hv : ∃ a len cap, v = .slice a len cap) : ∃ gs, RepG (hImm W) v gs := by
  obtain ⟨a0, len0, cap0, rfl⟩ := hv
  obtain ⟨fuel, h1⟩ := h
  rcases DataW.trod_slice ly.sl h1 with ⟨hcs, _⟩ | ⟨a, len, cap, elems, rest, n', rfl, hcs, hd, _, hl, hm, hlen, hel, hsp, _⟩
  · simp [Value.cells] at hcs
    obtain ⟨rfl, rfl, rfl⟩ := hcs
    exact ⟨[], none, 0, [], Nat.le_refl _, by simp, fun i hi => by simp at hi, fun s hs => by cases hs⟩
  · simp [Value.cells] at hcs
    obtain ⟨rfl, rfl, rfl⟩ := hcs
    obtain ⟨rfl, _⟩ := Prod.mk.inj hd
    simp only [DataW.weights, ly.sl, ly.bG, List.all_cons, List.all_append, Bool.and_eq_true, decide_eq_true_eq] at hw
    obtain ⟨hwl, hwe, _⟩ := hw
    have hrb : reachBytes = 140737488351232 := rfl
    simp only [List.length_map, hlen] at hwl
    have hall : ∀ i, i < len0 → ∃ s : Sy, At (hImm W) (some a) (i * 4) s.cs ∧ s.ok := by
      intro i hi
      have hy := hel i hi
      rw [ly.cG] at hy
      have hie : elems[i]? = some elems[i] := List.getElem?_eq_getElem (by omega)
      rw [hie, Option.bind_eq_some_iff] at hy
      obtain ⟨cs, hcs, htr⟩ := hy
      obtain ⟨_, hca⟩ := cells_all hcs
      obtain ⟨s, rfl, hok⟩ := openSy ly htr
      refine ⟨s, fun j v hj => ?_, hok⟩
      have := hca j v hj
      rw [add_add] at this
      exact this
    obtain ⟨gs, hgl, hg2⟩ := pick_list hall
    subst hgl
    exact ⟨gs, some a, cap0, gs, hl, by omega, fun i hi => (hg2 i hi).1, fun s hs => by obtain ⟨i, hi, rfl⟩ := List.getElem_of_mem hs; exact (hg2 i hi).2⟩
end Go.Proofs.YtdbadicpbmndbaaGreat
/- What a row's reading of a substitution says of the heap; plain facts, no condition. -/
set_option linter.unusedVariables false
set_option linter.unusedSimpArgs false
namespace Go.Proofs.YtdbadicpbmndbaaGreat
open Go Lg Go.ChangeShapes Go.WideShapes Go.ChangeAt Go.RowKit
variable {H : Type} {enc : TypeId × Value → H} {P : Program} {W : World} {spare : Nat → Bool} {held : Bool}
structure BiLay (P : Program) (tS tB tT tTs tI : TypeId) : Prop where
  tree : TreeTy P tT tTs tI
  str : ∃ f0 f1 : Field, P.underlying tB = some (.struct #[f0, f1]) ∧ f0.type = tI ∧ f0.offset = 0 ∧ f1.type = tT ∧ f1.offset = 1
  sl : P.underlying tS = some (.slice tB)
  cB : P.cellsOf tB = 3
  bB : P.bytesOf tB = 40
theorem openBi {tS tB tT tTs tI : TypeId} (ly : BiLay P tS tB tT tTs tI) {fuel : Nat} {cs : List Value} {x : DataW H × List MemPlace} (h : DataW.trod enc P W 0 spare held fuel tB cs = some x) (hw : (x.1.weights P tB).all (· ≤ reachBytes) = true) :
    ∃ (n : Int) (t : T) (s : Option Addr × Nat), cs = [.int .i64 n, .int .i64 t.head, .slice s.1 t.args.length s.2] ∧ InR n ∧ RepT (hImm W) (.agg #[.int .i64 t.head, .slice s.1 t.args.length s.2]) t := by
  obtain ⟨f0, f1, hs, e1, e2, g1, g2⟩ := ly.str
  obtain ⟨xs, n, rfl, hx, hcl, hxl, hxs⟩ := DataW.trod_struct hs h
  rw [ly.cB] at hcl
  obtain ⟨a, b, c, rfl⟩ : ∃ a b c, cs = [a, b, c] := by
    rcases cs with _ | ⟨a, _ | ⟨b, _ | ⟨c, _ | ⟨_, _⟩⟩⟩⟩ <;> simp at hcl
    exact ⟨a, b, c, rfl⟩
  have q0 := hxs 0 f0 rfl
  have q1 := hxs 1 f1 rfl
  have hx2 : xs.length = 2 := hxl
  obtain ⟨x0, x1, rfl⟩ : ∃ x0 x1, xs = [x0, x1] := by
    rcases xs with _ | ⟨u, _ | ⟨v, _ | ⟨_, _⟩⟩⟩ <;> simp at hx2
    exact ⟨u, v, rfl⟩
  rw [e1, e2, ly.tree.cI] at q0
  rw [g1, g2, ly.tree.cT] at q1
  simp only [List.drop_zero, List.drop_succ_cons, List.take_succ_cons, List.take_zero, List.getElem?_cons_zero, List.getElem?_cons_succ] at q0 q1
  subst hx
  have hts : (#[f0, f1] : Array Field).toList.map (·.type) = [tI, tT] := by simp [e1, g1]
  simp only [DataW.weights, hs, hts, List.map_cons, List.map_nil, DataW.weightsEach, List.all_append, Bool.and_eq_true] at hw
  obtain ⟨m, hm, _, hwf⟩ := DataW.trod_int ly.tree.int q0
  obtain ⟨s, t, hc, hr⟩ := openT ly.tree n _ x1.1 x1.2 q1 hw.2.1
  obtain ⟨sa, sc, hsh, _⟩ := hr.shape
  have hse : s = .slice sa t.args.length sc := by simpa using hsh
  subst hse
  simp only [List.cons.injEq, and_true] at hm hc
  obtain ⟨rfl, rfl⟩ := hc
  subst hm
  exact ⟨m, t, (sa, sc), rfl, wf_in hwf, hr⟩
theorem openBv {tS tB tT tTs tI : TypeId} (ly : BiLay P tS tB tT tTs tI) {v : Value} {d : DataW H} {ps : List MemPlace} (h : DataW.Trod enc P W 0 spare held tS v d ps) (hw : (d.weights P tS).all (· ≤ reachBytes) = true) (hv : ∃ a len cap, v = .slice a len cap) : ∃ bs, RepB (hImm W) v bs := by
  obtain ⟨a0, len0, cap0, rfl⟩ := hv
  obtain ⟨fuel, h1⟩ := h
  rcases DataW.trod_slice ly.sl h1 with ⟨hcs, _⟩ | ⟨a, len, cap, elems, rest, n', rfl, hcs, hd, _, hl, hm, hlen, hel, hsp, _⟩
  · simp [Value.cells] at hcs
    obtain ⟨rfl, rfl, rfl⟩ := hcs
    exact ⟨[], none, 0, fun _ => (none, 0), [], Nat.le_refl _, by simp, fun i hi => by simp at hi, fun i hi => by simp at hi, fun i hi => by simp at hi⟩
  · simp [Value.cells] at hcs
    obtain ⟨rfl, rfl, rfl⟩ := hcs
    obtain ⟨rfl, _⟩ := Prod.mk.inj hd
    simp only [DataW.weights, ly.sl, ly.bB, List.all_cons, List.all_append, Bool.and_eq_true, decide_eq_true_eq] at hw
    obtain ⟨hwl, hwe, _⟩ := hw
    have hwe' := weights_all hwe
    have hrb : reachBytes = 140737488351232 := rfl
    simp only [List.length_map, hlen] at hwl
    have hall : ∀ i, i < len0 → ∃ b : Bi × (Option Addr × Nat), At (hImm W) (some a) (i * 3) [.int .i64 b.1.1, .int .i64 b.1.2.head, .slice b.2.1 b.1.2.args.length b.2.2] ∧ InR b.1.1 ∧ RepT (hImm W) (.agg #[.int .i64 b.1.2.head, .slice b.2.1 b.1.2.args.length b.2.2]) b.1.2 := by
      intro i hi
      have hy := hel i hi
      rw [ly.cB] at hy
      have hie : elems[i]? = some elems[i] := List.getElem?_eq_getElem (by omega)
      rw [hie, Option.bind_eq_some_iff] at hy
      obtain ⟨cs, hcs, htr⟩ := hy
      obtain ⟨_, hca⟩ := cells_all hcs
      obtain ⟨n, t, s, rfl, hn, hr⟩ := openBi ly htr (hwe' _ (List.mem_map.2 ⟨_, List.getElem_mem (by omega), rfl⟩))
      refine ⟨((n, t), s), fun j v hj => ?_, hn, hr⟩
      have := hca j v hj
      rw [add_add] at this
      exact this
    obtain ⟨bl, hbl, hb2⟩ := pick_list hall
    subst hbl
    have key := RepB.mk (I := hImm W) (some a) cap0 (fun i => (bl.getD i ((0, zeroT), (none, 0))).2) (bl.map (·.1)) (by simpa using hl) (by simp; omega) (fun i hi => by
      have hi' : i < bl.length := by simpa using hi
      have := (hb2 i hi').1
      simpa [List.getElem?_eq_getElem hi'] using this) (fun i hi => by
      have hi' : i < bl.length := by simpa using hi
      simpa using (hb2 i hi').2.1) (fun i hi => by
      have hi' : i < bl.length := by simpa using hi
      have := (hb2 i hi').2.2
      simpa [List.getElem?_eq_getElem hi'] using this)
    rw [List.length_map] at key
    exact ⟨_, key⟩
end Go.Proofs.YtdbadicpbmndbaaGreat
/- What a row's reading of a literal says of the heap; plain facts, no condition. -/
set_option linter.unusedVariables false
set_option linter.unusedSimpArgs false
namespace Go.Proofs.YtdbadicpbmndbaaGreat
open Go Lg Go.ChangeShapes Go.WideShapes Go.ChangeAt Go.RowKit
variable {H : Type} {enc : TypeId × Value → H} {P : Program} {W : World} {spare : Nat → Bool} {held : Bool}
structure LiLay (P : Program) (tL tT tTs tI tb : TypeId) : Prop where
  tree : TreeTy P tT tTs tI
  str : ∃ f0 f1 f2 : Field, P.underlying tL = some (.struct #[f0, f1, f2]) ∧ (f0.type = tb ∧ f0.offset = 0) ∧ (f1.type = tT ∧ f1.offset = 1) ∧ f2.type = tT ∧ f2.offset = 3
  ub : P.underlying tb = some .bool
  cL : P.cellsOf tL = 5
  cb : P.cellsOf tb = 1
theorem openLi {tL tT tTs tI tb : TypeId} (ly : LiLay P tL tT tTs tI tb) {fuel : Nat} {cs : List Value} {x : DataW H × List MemPlace} (h : DataW.trod enc P W 0 spare held fuel tL cs = some x) (hw : (x.1.weights P tL).all (· ≤ reachBytes) = true) :
    ∃ (y : Li) (la ra : Option Addr) (lc rc : Nat), cs = [.bool y.neg, .int .i64 y.l.head, .slice la y.l.args.length lc, .int .i64 y.r.head, .slice ra y.r.args.length rc] ∧ RepT (hImm W) (.agg #[.int .i64 y.l.head, .slice la y.l.args.length lc]) y.l ∧ RepT (hImm W) (.agg #[.int .i64 y.r.head, .slice ra y.r.args.length rc]) y.r := by
  obtain ⟨f0, f1, f2, hs, ⟨e1, e2⟩, ⟨g1, g2⟩, k1, k2⟩ := ly.str
  obtain ⟨xs, n, rfl, hx, hcl, hxl, hxs⟩ := DataW.trod_struct hs h
  rw [ly.cL] at hcl
  obtain ⟨a, b, c, d, e, rfl⟩ : ∃ a b c d e, cs = [a, b, c, d, e] := by
    rcases cs with _ | ⟨a, _ | ⟨b, _ | ⟨c, _ | ⟨d, _ | ⟨e, _ | ⟨_, _⟩⟩⟩⟩⟩⟩ <;> simp at hcl
    exact ⟨a, b, c, d, e, rfl⟩
  have q0 := hxs 0 f0 rfl
  have q1 := hxs 1 f1 rfl
  have q2 := hxs 2 f2 rfl
  have hx3 : xs.length = 3 := hxl
  obtain ⟨x0, x1, x2, rfl⟩ : ∃ x0 x1 x2, xs = [x0, x1, x2] := by
    rcases xs with _ | ⟨u, _ | ⟨v, _ | ⟨w, _ | ⟨_, _⟩⟩⟩⟩ <;> simp at hx3
    exact ⟨u, v, w, rfl⟩
  rw [e1, e2, ly.cb] at q0
  rw [g1, g2, ly.tree.cT] at q1
  rw [k1, k2, ly.tree.cT] at q2
  simp only [List.drop_zero, List.drop_succ_cons, List.take_succ_cons, List.take_zero, List.getElem?_cons_zero, List.getElem?_cons_succ] at q0 q1 q2
  subst hx
  have hts : (#[f0, f1, f2] : Array Field).toList.map (·.type) = [tb, tT, tT] := by simp [e1, g1, k1]
  simp only [DataW.weights, hs, hts, List.map_cons, List.map_nil, DataW.weightsEach, List.all_append, Bool.and_eq_true] at hw
  obtain ⟨m, hm, _⟩ := DataW.trod_bool ly.ub q0
  obtain ⟨s, t, hc, hr⟩ := openT ly.tree n _ x1.1 x1.2 q1 hw.2.1
  obtain ⟨s', t', hc', hr'⟩ := openT ly.tree n _ x2.1 x2.2 q2 hw.2.2.1
  obtain ⟨sa, sc, hsh, _⟩ := hr.shape
  obtain ⟨sa', sc', hsh', _⟩ := hr'.shape
  have hse : s = .slice sa t.args.length sc := by simpa using hsh
  have hse' : s' = .slice sa' t'.args.length sc' := by simpa using hsh'
  subst hse; subst hse'
  simp only [List.cons.injEq, and_true] at hm hc hc'
  obtain ⟨rfl, rfl⟩ := hc
  obtain ⟨rfl, rfl⟩ := hc'
  subst hm
  exact ⟨⟨m, t, t'⟩, sa, sa', sc, sc', rfl, hr, hr'⟩
theorem openLv {tL tT tTs tI tb : TypeId} (ly : LiLay P tL tT tTs tI tb) {v : Value} {d : DataW H} {ps : List MemPlace} (h : DataW.Trod enc P W 0 spare held tL v d ps) (hw : (d.weights P tL).all (· ≤ reachBytes) = true) (hv : ∃ cs, v = .agg cs) : ∃ x, RepL (hImm W) v x := by
  obtain ⟨cs, rfl⟩ := hv
  obtain ⟨fuel, h1⟩ := h
  obtain ⟨y, la, ra, lc, rc, hc, hl, hr⟩ := openLi ly h1 hw
  refine ⟨y, la, lc, ra, rc, ?_, hl, hr⟩
  have : cs.toList = [.bool y.neg, .int .i64 y.l.head, .slice la y.l.args.length lc, .int .i64 y.r.head, .slice ra y.r.args.length rc] := by simpa [Value.cells] using hc
  cases cs; simp at this; subst this; rfl
end Go.Proofs.YtdbadicpbmndbaaGreat
/- What a row's reading of a clause, and of a script of stores, says of the heap; plain facts, no condition. -/
set_option linter.unusedVariables false
set_option linter.unusedSimpArgs false
namespace Go.Proofs.YtdbadicpbmndbaaGreat
open Go Lg Go.ChangeShapes Go.WideShapes Go.ChangeAt Go.RowKit
variable {H : Type} {enc : TypeId × Value → H} {P : Program} {W : World} {spare : Nat → Bool} {held : Bool}
theorem cells_allC {a : Addr} {n : Nat} {cs : List Value} (h : W.cells? 0 a n = some cs) : cs.length = n ∧ ∀ j v, cs[j]? = some v → W.cell? (a.add j) = some v := by
  simp only [World.cells?, Nat.zero_le, if_true] at h
  have key : ∀ (l : List Nat) (cs : List Value), l.mapM (fun i => W.cell? (a.add i)) = some cs → cs.length = l.length ∧ ∀ (j : Nat) (v : Value), cs[j]? = some v → ∃ i : Nat, l[j]? = some i ∧ W.cell? (a.add i) = some v := by
    intro l
    induction l with
    | nil => intro cs h; simp at h; subst h; exact ⟨rfl, fun j v h => by simp at h⟩
    | cons i l ih =>
      intro cs h
      simp only [List.mapM_cons, Option.bind_eq_bind, Option.bind_eq_some_iff, Option.pure_def, Option.some.injEq] at h
      obtain ⟨u, hu, r, hr, rfl⟩ := h
      obtain ⟨h1, h2⟩ := ih r hr
      refine ⟨by simp [h1], fun j v hj => ?_⟩
      cases j with
      | zero => simp at hj; subst hj; exact ⟨i, rfl, hu⟩
      | succ j => simpa using h2 j v (by simpa using hj)
  obtain ⟨h1, h2⟩ := key _ _ h
  refine ⟨by simpa using h1, fun j v hj => ?_⟩
  obtain ⟨i, hi, hc⟩ := h2 j v hj
  have hlt : j < n := by have := (List.getElem?_eq_some_iff.1 hi).1; simpa using this
  rw [List.getElem?_range hlt] at hi
  cases hi
  exact hc
theorem rowE_of {n : Nat} {α : Type} {E : Elt n α} {I : Imm} {ad : Option Addr} : ∀ (al : List α) (vss : List (List Value)), vss.length = al.length → (∀ i (h : i < al.length) (h' : i < vss.length), E.R I al[i] vss[i] ∧ At I ad (i * n) vss[i]) → RowE E I vss.flatten al ∧ ∀ m, (∀ i (h' : i < vss.length), At I ad (m * n + i * n) vss[i]) → ∀ j v, vss.flatten[j]? = some v → I.cellO (ad.map (·.add (m * n + j))) = some v
  | [], vss, hl, h => by
    have : vss = [] := List.eq_nil_of_length_eq_zero hl
    subst this
    exact ⟨rfl, fun m _ j v hj => by simp at hj⟩
  | a :: al, [], hl, h => by simp at hl
  | a :: al, vs :: vss, hl, h => by
    have hl' : vss.length = al.length := by simpa using hl
    have h0 := h 0 (by simp) (by simp)
    have hn : vs.length = n := E.len h0.1
    refine ⟨⟨vs, vss.flatten, rfl, h0.1, ?_⟩, ?_⟩
    · have key : ∀ (al : List α) (vss : List (List Value)), vss.length = al.length → (∀ i (h : i < al.length) (h' : i < vss.length), E.R I al[i] vss[i]) → RowE E I vss.flatten al := by
        intro al
        induction al with
        | nil => intro vss hl _; have : vss = [] := List.eq_nil_of_length_eq_zero hl; subst this; rfl
        | cons a al ih =>
          intro vss hl h
          rcases vss with _ | ⟨vs, vss⟩
          · simp at hl
          · exact ⟨vs, vss.flatten, rfl, h 0 (by simp) (by simp), ih vss (by simpa using hl) fun i h1 h2 => h (i + 1) (by simpa using h1) (by simpa using h2)⟩
      exact key al vss hl' fun i h1 h2 => (h (i + 1) (by simpa using h1) (by simpa using h2)).1
    · intro m hm j v hj
      have key : ∀ (vss : List (List Value)) (m : Nat), (∀ vs ∈ vss, vs.length = n) → (∀ i (h' : i < vss.length), At I ad (m * n + i * n) vss[i]) → ∀ j v, vss.flatten[j]? = some v → I.cellO (ad.map (·.add (m * n + j))) = some v := by
        intro vss
        induction vss with
        | nil => intro m _ _ j v hj; simp at hj
        | cons vs vss ih =>
          intro m hlen hm j v hj
          rw [List.flatten_cons] at hj
          have hvl := hlen vs (List.mem_cons_self ..)
          by_cases q : j < vs.length
          · rw [List.getElem?_append_left q] at hj
            have := hm 0 (by simp) j v hj
            simpa using this
          · rw [List.getElem?_append_right (by omega)] at hj
            have := ih (m + 1) (fun ws hw => hlen ws (List.mem_cons_of_mem _ hw)) (fun i h' => by
              have := hm (i + 1) (by simpa using h')
              rw [Nat.succ_mul] at this ⊢
              rw [show m * n + n + i * n = m * n + (i * n + n) by omega]
              simpa using this) (j - vs.length) v hj
            rw [Nat.succ_mul, show m * n + n + (j - vs.length) = m * n + j by omega] at this
            exact this
      have hlen : ∀ ws ∈ vs :: vss, ws.length = n := by
        intro ws hw
        obtain ⟨i, hi, rfl⟩ := List.getElem_of_mem hw
        exact E.len (h i (by rw [← hl]; exact hi) hi).1
      exact key (vs :: vss) m hlen hm j v hj
theorem repE_of {n : Nat} {α : Type} {E : Elt n α} {I : Imm} {ad : Option Addr} {c : Nat} (al : List α) (hc : al.length ≤ c) (hb : al.length ≤ 1954687338211) (h : ∀ i (h : i < al.length), ∃ vs, E.R I al[i] vs ∧ At I ad (i * n) vs) : RepE E I (.slice ad al.length c) al := by
  have hex : ∃ vss : List (List Value), vss.length = al.length ∧ ∀ i (h : i < al.length) (h' : i < vss.length), E.R I al[i] vss[i] ∧ At I ad (i * n) vss[i] := by
    classical
    refine ⟨(List.range al.length).map fun i => if h' : i < al.length then (h i h').choose else [], by simp, fun i h1 h2 => ?_⟩
    rw [List.getElem_map, List.getElem_range, dif_pos h1]
    exact (h i h1).choose_spec
  obtain ⟨vss, hl, hv⟩ := hex
  obtain ⟨h1, h2⟩ := rowE_of al vss hl hv
  refine ⟨ad, c, vss.flatten, rfl, hc, hb, fun j v hj => ?_, h1⟩
  have := h2 0 (fun i h' => by simpa using (hv i (by rw [← hl]; exact h') h').2) j v hj
  simpa using this
structure ClLay (P : Program) (tC tL tT tTs tI tb : TypeId) : Prop where
  lit : LiLay P tL tT tTs tI tb
  sl : P.underlying tC = some (.slice tL)
  bL : P.bytesOf tL = 72
theorem openCl {tC tL tT tTs tI tb : TypeId} (ly : ClLay P tC tL tT tTs tI tb) {fuel : Nat} {cs : List Value} {x : DataW H × List MemPlace} (h1 : DataW.trod enc P W 0 spare held fuel tC cs = some x) (hw : (x.1.weights P tC).all (· ≤ reachBytes) = true) : ∃ (a : Option Addr) (k : Nat) (c : List Li), cs = [.slice a c.length k] ∧ RepC (hImm W) (.slice a c.length k) c := by
  rcases DataW.trod_slice ly.sl h1 with ⟨hcs, _⟩ | ⟨a, len, cap, elems, rest, n', rfl, hcs, hd, _, hl, hm, hlen, hel, hsp, _⟩
  · exact ⟨none, 0, [], by simpa using hcs, RepE.nil⟩
  · obtain ⟨x1, x2⟩ := x
    obtain ⟨rfl, _⟩ := Prod.mk.inj hd
    simp only [DataW.weights, ly.sl, ly.bL, List.all_cons, List.all_append, Bool.and_eq_true, decide_eq_true_eq] at hw
    obtain ⟨hwl, hwe, _⟩ := hw
    have hwe' := weights_all hwe
    have hrb : reachBytes = 140737488351232 := rfl
    simp only [List.length_map, hlen] at hwl
    have hall : ∀ i, i < len → ∃ y : Li, ∃ vs, LitE.R (hImm W) y vs ∧ At (hImm W) (some a) (i * 5) vs := by
      intro i hi
      have hy := hel i hi
      rw [ly.lit.cL] at hy
      have hie : elems[i]? = some elems[i] := List.getElem?_eq_getElem (by omega)
      rw [hie, Option.bind_eq_some_iff] at hy
      obtain ⟨cs', hcs', htr⟩ := hy
      obtain ⟨_, hca⟩ := cells_allC hcs'
      obtain ⟨y, la, ra, lc, rc, rfl, h1, h2⟩ := openLi ly.lit htr (hwe' _ (List.mem_map.2 ⟨_, List.getElem_mem (by omega), rfl⟩))
      refine ⟨y, _, ⟨la, lc, ra, rc, rfl, h1, h2⟩, fun j v hj => ?_⟩
      have := hca j v hj
      rw [add_add] at this
      exact this
    obtain ⟨c, hcl, hc2⟩ := pick_list hall
    subst hcl
    exact ⟨some a, cap, c, by simpa using hcs, repE_of c hl (by omega) hc2⟩
theorem openCv {tC tL tT tTs tI tb : TypeId} (ly : ClLay P tC tL tT tTs tI tb) {v : Value} {d : DataW H} {ps : List MemPlace} (h : DataW.Trod enc P W 0 spare held tC v d ps) (hw : (d.weights P tC).all (· ≤ reachBytes) = true) (hv : ∃ a l c, v = .slice a l c) : ∃ c, RepC (hImm W) v c := by
  obtain ⟨a, l, c, rfl⟩ := hv
  obtain ⟨fuel, h1⟩ := h
  obtain ⟨a', k, cl, hcs, hr⟩ := openCl ly h1 hw
  simp [Value.cells] at hcs
  obtain ⟨rfl, rfl, rfl⟩ := hcs
  exact ⟨cl, hr⟩
end Go.Proofs.YtdbadicpbmndbaaGreat
