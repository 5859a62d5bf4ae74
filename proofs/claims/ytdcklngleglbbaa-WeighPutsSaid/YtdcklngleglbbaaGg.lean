/- Walks: the example of the chapter on weights. -/
import Derived.Test.YtdcklngleglbbaaGf
import Derived.Test.YtdcklngleglbbaaWm
set_option linter.unusedVariables false
set_option linter.unusedSimpArgs false
namespace Go.Proofs.Ytdcklngleglbbaa
open Go Lg

def toyL : List Sy := [truthS, ⟨⟨#[102]⟩, 1, 1, false⟩, ⟨⟨#[103]⟩, 2, 1, false⟩]
def tC : T := .mk 2 [.mk (-1) [], .mk 1 [.mk (-1) []]]
def tD : T := .mk 1 [.mk 0 []]
theorem toy_right : rightG toyL = true := by decide +kernel
theorem toy_C : termG toyL tC = 0 := by decide +kernel
theorem toy_Cw : wgtG toyL tC = 4 := by decide +kernel
theorem toy_D : termG toyL tD = 10 := by decide +kernel
theorem toy_find : findN toyL ⟨#[103]⟩ = 2 := by decide +kernel
theorem toy_counts {cs : List Int} (h : CInv (hds tC) [] cs) : cs = [2] := by
  have h1 := h.last
  have h2 := h.2.2
  have h3 := h.1
  have hc : ∀ v : Nat, (((hds tC).count (-1 - (v : Int)) : Nat) : Int) = if v = 0 then 2 else 0 := fun v => by
    simp [hds, tC, visT, visL, T.head, List.count_cons]
    by_cases hv : v = 0
    · subst hv; simp
    · rw [if_neg hv]
      have e1 : ¬ (2 : Int) = -1 - v := by omega
      have e2 : ¬ (-1 : Int) = -1 - v := by omega
      have e3 : ¬ (1 : Int) = -1 - v := by omega
      simp [e1, e2, e3]
  cases cs with
  | nil => have := h1 0 (by omega); rw [hc 0] at this; simp at this
  | cons a r =>
    have ha := h1 0 (by omega)
    rw [hc 0] at ha
    cases r with
    | nil => simp at ha; simp [ha]
    | cons b q =>
      exfalso
      have hl := h2 (q.length + 1) rfl
      have hlt : q.length + 1 < 256 := by simp at h3; omega
      rw [h1 _ hlt, hc, if_neg (by omega)] at hl
      exact hl rfl

theorem toy_does {I : Imm} : Does Try.prog 62 [] I [] (fun v I' δ' => RepG I' v toyL ∧ δ' = []) := by
  refine Does.intro Try.func62 rfl Try.ntmps62 rfl fun w0 => ?_
  refine code_seq ?_
  refine code_region ?_
  refine op_v (v_assign rfl) rfl ?_
  refine ops_nil ?_
  refine post_next ?_
  refine code_seq ?_
  refine code_region ?_
  refine op_v (v_build bl49 rfl rfl) rfl ?_
  refine op_v (v_build bl49 rfl rfl) rfl ?_
  refine op_v (v_build bl49 rfl rfl) rfl ?_
  refine o_buildSlice (xs := [(Go.Operand.tmp 1), (Go.Operand.tmp 2), (Go.Operand.tmp 3)]) Try.underlying43 bs49 rfl rfl rfl rfl rfl (fun b4 => ?_)
  refine OpsJ.freezeRow Del.here ?_
  rintro I4 a4 c4 hI4 hq hc4 hl4 hcells4
  cases hq
  refine op_v (v_assign rfl) rfl ?_
  refine ops_nil ?_
  refine post_next ?_
  refine code_ret ?_
  refine post_ret (rs := [.tmp 0]) rfl (List.Perm.refl _) (.cons (.tmp rfl) .nil) (List.nil_sublist _) ?_
  exact ⟨RepG.of (gs := toyL) hcells4 rfl rfl hc4 (by omega) (by intro s hs; simp [toyL, truthS] at hs; rcases hs with rfl | rfl | rfl <;> exact ⟨by unfold InR; simp, by unfold InR; simp, by simp [ByteArray.size, maxLen]⟩), rfl⟩
end Go.Proofs.Ytdcklngleglbbaa
