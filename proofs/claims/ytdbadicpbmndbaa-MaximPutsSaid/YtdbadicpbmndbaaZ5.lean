/- Own texts, one behind the other: rules of a small program logic, walks through the program's functions, plain facts. No condition. -/
import Derived.Test.YtdbadicpbmndbaaZ4
/- Walks: literals: whether two are the same, what they are compared by. -/
set_option linter.unusedVariables false
set_option linter.unusedSimpArgs false
set_option linter.unnecessarySimpa false
/- short -/
namespace Go.Proofs.Ytdbadicpbmndbaa
open Go Lg

/-! ### walks -/
theorem equal_does {I : Imm} {va vb : Value} {x y : Li} (ha : RepL I va x) (hb : RepL I vb y) (h1 : x.l.size ≤ 1000000000) (h2 : x.r.size ≤ 1000000000) (h3 : y.l.size ≤ 1000000000) (h4 : y.r.size ≤ 1000000000) :
    Does Try.prog 78 [va, vb] I [] (fun v _ δ' => v = .bool (eqL x y) ∧ δ' = []) := by
  obtain ⟨la, lc, ra, rc, rfl, hl, hr⟩ := ha
  obtain ⟨ma, mc, na, nc, rfl, kl, kr⟩ := hb
  refine Does.intro Try.func78 rfl Try.ntmps78 rfl fun w0 => ?_
  refine code_seq ?_
  refine code_region ?_
  refine o_box rfl rfl rfl (fun b2 => ?_)
  refine o_box rfl rfl rfl (fun b3 => ?_)
  refine op_v (v_assign rfl) rfl ?_
  refine ops_nil ?_
  refine post_next ?_
  refine code_seq ?_
  refine code_region ?_
  first | refine op_v (v_fieldB 1 Try.underlying49 rfl rfl fz47 rfl) rfl ?_ | refine op_v (v_fieldI 1 Try.underlying49 rfl rfl fz47 rfl (by assumption)) rfl ?_ | refine op_v (v_field Try.underlying49 rfl fz47 rfl rfl) rfl ?_
  refine op_v (v_loadA ty47 rfl rfl) rfl ?_
  first | refine op_v (v_fieldB 1 Try.underlying49 rfl rfl fz47 rfl) rfl ?_ | refine op_v (v_fieldI 1 Try.underlying49 rfl rfl fz47 rfl (by assumption)) rfl ?_ | refine op_v (v_field Try.underlying49 rfl fz47 rfl rfl) rfl ?_
  refine op_v (v_loadA ty47 rfl rfl) rfl ?_
  refine op_call pl77 rfl rfl ((TSame_does (hl.mono Imm.leA) (kl.mono Imm.leA) h1 h3)) Parts.none ?_
  rintro _ I9 _ hI9 ⟨rfl, rfl⟩
  by_cases e1 : x.l = y.l
  · rw [show decide (x.l = y.l) = true by simpa using e1]
    refine op_v (v_move rfl) rfl ?_
    first
      | (refine op_want rfl rfl ?_
         first | refine op_v (v_fieldB 3 Try.underlying49 rfl rfl fz47 rfl) rfl ?_ | refine op_v (v_fieldI 3 Try.underlying49 rfl rfl fz47 rfl (by assumption)) rfl ?_ | refine op_v (v_field Try.underlying49 rfl fz47 rfl rfl) rfl ?_)
      | (refine op_skip rfl rfl (by simp [undef]) rfl ?_)
    first
      | (refine op_want rfl rfl ?_
         refine op_v (v_loadA ty47 rfl rfl) rfl ?_)
      | (refine op_skip rfl rfl (by simp [undef]) rfl ?_)
    first
      | (refine op_want rfl rfl ?_
         first | refine op_v (v_fieldB 3 Try.underlying49 rfl rfl fz47 rfl) rfl ?_ | refine op_v (v_fieldI 3 Try.underlying49 rfl rfl fz47 rfl (by assumption)) rfl ?_ | refine op_v (v_field Try.underlying49 rfl fz47 rfl rfl) rfl ?_)
      | (refine op_skip rfl rfl (by simp [undef]) rfl ?_)
    first
      | (refine op_want rfl rfl ?_
         refine op_v (v_loadA ty47 rfl rfl) rfl ?_)
      | (refine op_skip rfl rfl (by simp [undef]) rfl ?_)
    first
      | (refine op_want rfl rfl ?_
         refine op_call pl77 rfl rfl ((TSame_does (hr.mono Imm.leA) (kr.mono Imm.leA) h2 h4)) Parts.none ?_
         rintro _ I15 _ hI15 ⟨rfl, rfl⟩)
      | (refine op_skip rfl rfl (by simp [undef]) rfl ?_)
    by_cases e2 : x.r = y.r
    · rw [show decide (x.r = y.r) = true by simpa using e2]
      first | refine op_v (v_pickt rfl rfl) rfl ?_ | refine op_v (v_pickf rfl rfl) rfl ?_ | refine op_v (v_pickb rfl rfl rfl) rfl ?_
      refine op_v (v_move rfl) rfl ?_
      first
        | (refine op_want rfl rfl ?_
           first | refine op_v (v_fieldB 1 Try.underlying49 rfl rfl fz47 rfl) rfl ?_ | refine op_v (v_fieldI 1 Try.underlying49 rfl rfl fz47 rfl (by assumption)) rfl ?_ | refine op_v (v_field Try.underlying49 rfl fz47 rfl rfl) rfl ?_)
        | (refine op_skip rfl rfl (by simp [undef]) rfl ?_)
      first
        | (refine op_want rfl rfl ?_
           refine op_v (v_loadA ty47 rfl rfl) rfl ?_)
        | (refine op_skip rfl rfl (by simp [undef]) rfl ?_)
      first
        | (refine op_want rfl rfl ?_
           first | refine op_v (v_fieldB 3 Try.underlying49 rfl rfl fz47 rfl) rfl ?_ | refine op_v (v_fieldI 3 Try.underlying49 rfl rfl fz47 rfl (by assumption)) rfl ?_ | refine op_v (v_field Try.underlying49 rfl fz47 rfl rfl) rfl ?_)
        | (refine op_skip rfl rfl (by simp [undef]) rfl ?_)
      first
        | (refine op_want rfl rfl ?_
           refine op_v (v_loadA ty47 rfl rfl) rfl ?_)
        | (refine op_skip rfl rfl (by simp [undef]) rfl ?_)
      first
        | (refine op_want rfl rfl ?_
           refine op_call pl77 rfl rfl ((TSame_does (hl.mono Imm.leA) (kr.mono Imm.leA) h1 h4)) Parts.none ?_
           rintro _ I22 _ hI22 ⟨rfl, rfl⟩)
        | (refine op_skip rfl rfl (by simp [undef]) rfl ?_)
      first
        | (refine op_want rfl rfl ?_
           refine op_v (v_move rfl) rfl ?_)
        | (refine op_skip rfl rfl (by simp [undef]) rfl ?_)
      first
        | (refine op_want rfl rfl ?_
           first | refine op_v (v_fieldB 3 Try.underlying49 rfl rfl fz47 rfl) rfl ?_ | refine op_v (v_fieldI 3 Try.underlying49 rfl rfl fz47 rfl (by assumption)) rfl ?_ | refine op_v (v_field Try.underlying49 rfl fz47 rfl rfl) rfl ?_)
        | (refine op_skip rfl rfl (by simp [undef]) rfl ?_)
      first
        | (refine op_want rfl rfl ?_
           refine op_v (v_loadA ty47 rfl rfl) rfl ?_)
        | (refine op_skip rfl rfl (by simp [undef]) rfl ?_)
      first
        | (refine op_want rfl rfl ?_
           first | refine op_v (v_fieldB 1 Try.underlying49 rfl rfl fz47 rfl) rfl ?_ | refine op_v (v_fieldI 1 Try.underlying49 rfl rfl fz47 rfl (by assumption)) rfl ?_ | refine op_v (v_field Try.underlying49 rfl fz47 rfl rfl) rfl ?_)
        | (refine op_skip rfl rfl (by simp [undef]) rfl ?_)
      first
        | (refine op_want rfl rfl ?_
           refine op_v (v_loadA ty47 rfl rfl) rfl ?_)
        | (refine op_skip rfl rfl (by simp [undef]) rfl ?_)
      first
        | (refine op_want rfl rfl ?_
           refine op_call pl77 rfl rfl ((TSame_does (hr.mono Imm.leA) (kl.mono Imm.leA) h2 h3)) Parts.none ?_
           rintro _ I28 _ hI28 ⟨rfl, rfl⟩)
        | (refine op_skip rfl rfl (by simp [undef]) rfl ?_)
      first
        | (refine op_want rfl rfl ?_
           first | refine op_v (v_pickt rfl rfl) rfl ?_ | refine op_v (v_pickf rfl rfl) rfl ?_ | refine op_v (v_pickb rfl rfl rfl) rfl ?_)
        | (refine op_skip rfl rfl (by simp [undef]) rfl ?_)
      first | refine op_v (v_pickt rfl rfl) rfl ?_ | refine op_v (v_pickf rfl rfl) rfl ?_ | refine op_v (v_pickb rfl rfl rfl) rfl ?_
      refine op_v (v_assign rfl) rfl ?_
      refine ops_nil ?_
      refine post_next ?_
      refine code_ret ?_
      refine post_ret (rs := [.tmp 4]) rfl (List.Perm.refl _) (.cons (.tmp rfl) .nil) (List.nil_sublist _) ?_
      exact ⟨by simp [outV, eqL, e1, e2], rfl⟩
    · rw [show decide (x.r = y.r) = false by simpa using e2]
      first | refine op_v (v_pickt rfl rfl) rfl ?_ | refine op_v (v_pickf rfl rfl) rfl ?_ | refine op_v (v_pickb rfl rfl rfl) rfl ?_
      refine op_v (v_move rfl) rfl ?_
      first
        | (refine op_want rfl rfl ?_
           first | refine op_v (v_fieldB 1 Try.underlying49 rfl rfl fz47 rfl) rfl ?_ | refine op_v (v_fieldI 1 Try.underlying49 rfl rfl fz47 rfl (by assumption)) rfl ?_ | refine op_v (v_field Try.underlying49 rfl fz47 rfl rfl) rfl ?_)
        | (refine op_skip rfl rfl (by simp [undef]) rfl ?_)
      first
        | (refine op_want rfl rfl ?_
           refine op_v (v_loadA ty47 rfl rfl) rfl ?_)
        | (refine op_skip rfl rfl (by simp [undef]) rfl ?_)
      first
        | (refine op_want rfl rfl ?_
           first | refine op_v (v_fieldB 3 Try.underlying49 rfl rfl fz47 rfl) rfl ?_ | refine op_v (v_fieldI 3 Try.underlying49 rfl rfl fz47 rfl (by assumption)) rfl ?_ | refine op_v (v_field Try.underlying49 rfl fz47 rfl rfl) rfl ?_)
        | (refine op_skip rfl rfl (by simp [undef]) rfl ?_)
      first
        | (refine op_want rfl rfl ?_
           refine op_v (v_loadA ty47 rfl rfl) rfl ?_)
        | (refine op_skip rfl rfl (by simp [undef]) rfl ?_)
      first
        | (refine op_want rfl rfl ?_
           refine op_call pl77 rfl rfl ((TSame_does (hl.mono Imm.leA) (kr.mono Imm.leA) h1 h4)) Parts.none ?_
           rintro _ I22 _ hI22 ⟨rfl, rfl⟩)
        | (refine op_skip rfl rfl (by simp [undef]) rfl ?_)
      by_cases e3 : x.l = y.r
      · rw [show decide (x.l = y.r) = true by simpa using e3]
        first
          | (refine op_want rfl rfl ?_
             refine op_v (v_move rfl) rfl ?_)
          | (refine op_skip rfl rfl (by simp [undef]) rfl ?_)
        first
          | (refine op_want rfl rfl ?_
             first | refine op_v (v_fieldB 3 Try.underlying49 rfl rfl fz47 rfl) rfl ?_ | refine op_v (v_fieldI 3 Try.underlying49 rfl rfl fz47 rfl (by assumption)) rfl ?_ | refine op_v (v_field Try.underlying49 rfl fz47 rfl rfl) rfl ?_)
          | (refine op_skip rfl rfl (by simp [undef]) rfl ?_)
        first
          | (refine op_want rfl rfl ?_
             refine op_v (v_loadA ty47 rfl rfl) rfl ?_)
          | (refine op_skip rfl rfl (by simp [undef]) rfl ?_)
        first
          | (refine op_want rfl rfl ?_
             first | refine op_v (v_fieldB 1 Try.underlying49 rfl rfl fz47 rfl) rfl ?_ | refine op_v (v_fieldI 1 Try.underlying49 rfl rfl fz47 rfl (by assumption)) rfl ?_ | refine op_v (v_field Try.underlying49 rfl fz47 rfl rfl) rfl ?_)
          | (refine op_skip rfl rfl (by simp [undef]) rfl ?_)
        first
          | (refine op_want rfl rfl ?_
             refine op_v (v_loadA ty47 rfl rfl) rfl ?_)
          | (refine op_skip rfl rfl (by simp [undef]) rfl ?_)
        first
          | (refine op_want rfl rfl ?_
             refine op_call pl77 rfl rfl ((TSame_does (hr.mono Imm.leA) (kl.mono Imm.leA) h2 h3)) Parts.none ?_
             rintro _ I28 _ hI28 ⟨rfl, rfl⟩)
          | (refine op_skip rfl rfl (by simp [undef]) rfl ?_)
        first
          | (refine op_want rfl rfl ?_
             first | refine op_v (v_pickt rfl rfl) rfl ?_ | refine op_v (v_pickf rfl rfl) rfl ?_ | refine op_v (v_pickb rfl rfl rfl) rfl ?_)
          | (refine op_skip rfl rfl (by simp [undef]) rfl ?_)
        first | refine op_v (v_pickt rfl rfl) rfl ?_ | refine op_v (v_pickf rfl rfl) rfl ?_ | refine op_v (v_pickb rfl rfl rfl) rfl ?_
        refine op_v (v_assign rfl) rfl ?_
        refine ops_nil ?_
        refine post_next ?_
        refine code_ret ?_
        refine post_ret (rs := [.tmp 4]) rfl (List.Perm.refl _) (.cons (.tmp rfl) .nil) (List.nil_sublist _) ?_
        exact ⟨by unfold eqL; simp_all [outV], rfl⟩
      · rw [show decide (x.l = y.r) = false by simpa using e3]
        first
          | (refine op_want rfl rfl ?_
             refine op_v (v_move rfl) rfl ?_)
          | (refine op_skip rfl rfl (by simp [undef]) rfl ?_)
        first
          | (refine op_want rfl rfl ?_
             first | refine op_v (v_fieldB 3 Try.underlying49 rfl rfl fz47 rfl) rfl ?_ | refine op_v (v_fieldI 3 Try.underlying49 rfl rfl fz47 rfl (by assumption)) rfl ?_ | refine op_v (v_field Try.underlying49 rfl fz47 rfl rfl) rfl ?_)
          | (refine op_skip rfl rfl (by simp [undef]) rfl ?_)
        first
          | (refine op_want rfl rfl ?_
             refine op_v (v_loadA ty47 rfl rfl) rfl ?_)
          | (refine op_skip rfl rfl (by simp [undef]) rfl ?_)
        first
          | (refine op_want rfl rfl ?_
             first | refine op_v (v_fieldB 1 Try.underlying49 rfl rfl fz47 rfl) rfl ?_ | refine op_v (v_fieldI 1 Try.underlying49 rfl rfl fz47 rfl (by assumption)) rfl ?_ | refine op_v (v_field Try.underlying49 rfl fz47 rfl rfl) rfl ?_)
          | (refine op_skip rfl rfl (by simp [undef]) rfl ?_)
        first
          | (refine op_want rfl rfl ?_
             refine op_v (v_loadA ty47 rfl rfl) rfl ?_)
          | (refine op_skip rfl rfl (by simp [undef]) rfl ?_)
        first
          | (refine op_want rfl rfl ?_
             refine op_call pl77 rfl rfl ((TSame_does (hr.mono Imm.leA) (kl.mono Imm.leA) h2 h3)) Parts.none ?_
             rintro _ I28 _ hI28 ⟨rfl, rfl⟩)
          | (refine op_skip rfl rfl (by simp [undef]) rfl ?_)
        first
          | (refine op_want rfl rfl ?_
             first | refine op_v (v_pickt rfl rfl) rfl ?_ | refine op_v (v_pickf rfl rfl) rfl ?_ | refine op_v (v_pickb rfl rfl rfl) rfl ?_)
          | (refine op_skip rfl rfl (by simp [undef]) rfl ?_)
        first | refine op_v (v_pickt rfl rfl) rfl ?_ | refine op_v (v_pickf rfl rfl) rfl ?_ | refine op_v (v_pickb rfl rfl rfl) rfl ?_
        refine op_v (v_assign rfl) rfl ?_
        refine ops_nil ?_
        refine post_next ?_
        refine code_ret ?_
        refine post_ret (rs := [.tmp 4]) rfl (List.Perm.refl _) (.cons (.tmp rfl) .nil) (List.nil_sublist _) ?_
        exact ⟨by unfold eqL; simp_all [outV], rfl⟩
  · rw [show decide (x.l = y.l) = false by simpa using e1]
    refine op_v (v_move rfl) rfl ?_
    first
      | (refine op_want rfl rfl ?_
         first | refine op_v (v_fieldB 3 Try.underlying49 rfl rfl fz47 rfl) rfl ?_ | refine op_v (v_fieldI 3 Try.underlying49 rfl rfl fz47 rfl (by assumption)) rfl ?_ | refine op_v (v_field Try.underlying49 rfl fz47 rfl rfl) rfl ?_)
      | (refine op_skip rfl rfl (by simp [undef]) rfl ?_)
    first
      | (refine op_want rfl rfl ?_
         refine op_v (v_loadA ty47 rfl rfl) rfl ?_)
      | (refine op_skip rfl rfl (by simp [undef]) rfl ?_)
    first
      | (refine op_want rfl rfl ?_
         first | refine op_v (v_fieldB 3 Try.underlying49 rfl rfl fz47 rfl) rfl ?_ | refine op_v (v_fieldI 3 Try.underlying49 rfl rfl fz47 rfl (by assumption)) rfl ?_ | refine op_v (v_field Try.underlying49 rfl fz47 rfl rfl) rfl ?_)
      | (refine op_skip rfl rfl (by simp [undef]) rfl ?_)
    first
      | (refine op_want rfl rfl ?_
         refine op_v (v_loadA ty47 rfl rfl) rfl ?_)
      | (refine op_skip rfl rfl (by simp [undef]) rfl ?_)
    first
      | (refine op_want rfl rfl ?_
         refine op_call pl77 rfl rfl ((TSame_does (hr.mono Imm.leA) (kr.mono Imm.leA) h2 h4)) Parts.none ?_
         rintro _ I15 _ hI15 ⟨rfl, rfl⟩)
      | (refine op_skip rfl rfl (by simp [undef]) rfl ?_)
    first | refine op_v (v_pickt rfl rfl) rfl ?_ | refine op_v (v_pickf rfl rfl) rfl ?_ | refine op_v (v_pickb rfl rfl rfl) rfl ?_
    refine op_v (v_move rfl) rfl ?_
    first
      | (refine op_want rfl rfl ?_
         first | refine op_v (v_fieldB 1 Try.underlying49 rfl rfl fz47 rfl) rfl ?_ | refine op_v (v_fieldI 1 Try.underlying49 rfl rfl fz47 rfl (by assumption)) rfl ?_ | refine op_v (v_field Try.underlying49 rfl fz47 rfl rfl) rfl ?_)
      | (refine op_skip rfl rfl (by simp [undef]) rfl ?_)
    first
      | (refine op_want rfl rfl ?_
         refine op_v (v_loadA ty47 rfl rfl) rfl ?_)
      | (refine op_skip rfl rfl (by simp [undef]) rfl ?_)
    first
      | (refine op_want rfl rfl ?_
         first | refine op_v (v_fieldB 3 Try.underlying49 rfl rfl fz47 rfl) rfl ?_ | refine op_v (v_fieldI 3 Try.underlying49 rfl rfl fz47 rfl (by assumption)) rfl ?_ | refine op_v (v_field Try.underlying49 rfl fz47 rfl rfl) rfl ?_)
      | (refine op_skip rfl rfl (by simp [undef]) rfl ?_)
    first
      | (refine op_want rfl rfl ?_
         refine op_v (v_loadA ty47 rfl rfl) rfl ?_)
      | (refine op_skip rfl rfl (by simp [undef]) rfl ?_)
    first
      | (refine op_want rfl rfl ?_
         refine op_call pl77 rfl rfl ((TSame_does (hl.mono Imm.leA) (kr.mono Imm.leA) h1 h4)) Parts.none ?_
         rintro _ I22 _ hI22 ⟨rfl, rfl⟩)
      | (refine op_skip rfl rfl (by simp [undef]) rfl ?_)
    by_cases e3 : x.l = y.r
    · rw [show decide (x.l = y.r) = true by simpa using e3]
      first
        | (refine op_want rfl rfl ?_
           refine op_v (v_move rfl) rfl ?_)
        | (refine op_skip rfl rfl (by simp [undef]) rfl ?_)
      first
        | (refine op_want rfl rfl ?_
           first | refine op_v (v_fieldB 3 Try.underlying49 rfl rfl fz47 rfl) rfl ?_ | refine op_v (v_fieldI 3 Try.underlying49 rfl rfl fz47 rfl (by assumption)) rfl ?_ | refine op_v (v_field Try.underlying49 rfl fz47 rfl rfl) rfl ?_)
        | (refine op_skip rfl rfl (by simp [undef]) rfl ?_)
      first
        | (refine op_want rfl rfl ?_
           refine op_v (v_loadA ty47 rfl rfl) rfl ?_)
        | (refine op_skip rfl rfl (by simp [undef]) rfl ?_)
      first
        | (refine op_want rfl rfl ?_
           first | refine op_v (v_fieldB 1 Try.underlying49 rfl rfl fz47 rfl) rfl ?_ | refine op_v (v_fieldI 1 Try.underlying49 rfl rfl fz47 rfl (by assumption)) rfl ?_ | refine op_v (v_field Try.underlying49 rfl fz47 rfl rfl) rfl ?_)
        | (refine op_skip rfl rfl (by simp [undef]) rfl ?_)
      first
        | (refine op_want rfl rfl ?_
           refine op_v (v_loadA ty47 rfl rfl) rfl ?_)
        | (refine op_skip rfl rfl (by simp [undef]) rfl ?_)
      first
        | (refine op_want rfl rfl ?_
           refine op_call pl77 rfl rfl ((TSame_does (hr.mono Imm.leA) (kl.mono Imm.leA) h2 h3)) Parts.none ?_
           rintro _ I28 _ hI28 ⟨rfl, rfl⟩)
        | (refine op_skip rfl rfl (by simp [undef]) rfl ?_)
      first
        | (refine op_want rfl rfl ?_
           first | refine op_v (v_pickt rfl rfl) rfl ?_ | refine op_v (v_pickf rfl rfl) rfl ?_ | refine op_v (v_pickb rfl rfl rfl) rfl ?_)
        | (refine op_skip rfl rfl (by simp [undef]) rfl ?_)
      first | refine op_v (v_pickt rfl rfl) rfl ?_ | refine op_v (v_pickf rfl rfl) rfl ?_ | refine op_v (v_pickb rfl rfl rfl) rfl ?_
      refine op_v (v_assign rfl) rfl ?_
      refine ops_nil ?_
      refine post_next ?_
      refine code_ret ?_
      refine post_ret (rs := [.tmp 4]) rfl (List.Perm.refl _) (.cons (.tmp rfl) .nil) (List.nil_sublist _) ?_
      exact ⟨by unfold eqL; simp_all [outV], rfl⟩
    · rw [show decide (x.l = y.r) = false by simpa using e3]
      first
        | (refine op_want rfl rfl ?_
           refine op_v (v_move rfl) rfl ?_)
        | (refine op_skip rfl rfl (by simp [undef]) rfl ?_)
      first
        | (refine op_want rfl rfl ?_
           first | refine op_v (v_fieldB 3 Try.underlying49 rfl rfl fz47 rfl) rfl ?_ | refine op_v (v_fieldI 3 Try.underlying49 rfl rfl fz47 rfl (by assumption)) rfl ?_ | refine op_v (v_field Try.underlying49 rfl fz47 rfl rfl) rfl ?_)
        | (refine op_skip rfl rfl (by simp [undef]) rfl ?_)
      first
        | (refine op_want rfl rfl ?_
           refine op_v (v_loadA ty47 rfl rfl) rfl ?_)
        | (refine op_skip rfl rfl (by simp [undef]) rfl ?_)
      first
        | (refine op_want rfl rfl ?_
           first | refine op_v (v_fieldB 1 Try.underlying49 rfl rfl fz47 rfl) rfl ?_ | refine op_v (v_fieldI 1 Try.underlying49 rfl rfl fz47 rfl (by assumption)) rfl ?_ | refine op_v (v_field Try.underlying49 rfl fz47 rfl rfl) rfl ?_)
        | (refine op_skip rfl rfl (by simp [undef]) rfl ?_)
      first
        | (refine op_want rfl rfl ?_
           refine op_v (v_loadA ty47 rfl rfl) rfl ?_)
        | (refine op_skip rfl rfl (by simp [undef]) rfl ?_)
      first
        | (refine op_want rfl rfl ?_
           refine op_call pl77 rfl rfl ((TSame_does (hr.mono Imm.leA) (kl.mono Imm.leA) h2 h3)) Parts.none ?_
           rintro _ I28 _ hI28 ⟨rfl, rfl⟩)
        | (refine op_skip rfl rfl (by simp [undef]) rfl ?_)
      first
        | (refine op_want rfl rfl ?_
           first | refine op_v (v_pickt rfl rfl) rfl ?_ | refine op_v (v_pickf rfl rfl) rfl ?_ | refine op_v (v_pickb rfl rfl rfl) rfl ?_)
        | (refine op_skip rfl rfl (by simp [undef]) rfl ?_)
      first | refine op_v (v_pickt rfl rfl) rfl ?_ | refine op_v (v_pickf rfl rfl) rfl ?_ | refine op_v (v_pickb rfl rfl rfl) rfl ?_
      refine op_v (v_assign rfl) rfl ?_
      refine ops_nil ?_
      refine post_next ?_
      refine code_ret ?_
      refine post_ret (rs := [.tmp 4]) rfl (List.Perm.refl _) (.cons (.tmp rfl) .nil) (List.nil_sublist _) ?_
      exact ⟨by unfold eqL; simp_all [outV], rfl⟩
theorem LSame_does {I : Imm} {va vb : Value} {x y : Li} (ha : RepL I va x) (hb : RepL I vb y) (h1 : x.l.size ≤ 1000000000) (h2 : x.r.size ≤ 1000000000) (h3 : y.l.size ≤ 1000000000) (h4 : y.r.size ≤ 1000000000) :
    Does Try.prog 32 [va, vb] I [] (fun v _ δ' => v = .bool (sameL x y) ∧ δ' = []) := by
  have ha0 := ha
  have hb0 := hb
  obtain ⟨la, lc, ra, rc, rfl, hl, hr⟩ := ha
  obtain ⟨ma, mc, na, nc, rfl, kl, kr⟩ := hb
  refine Does.intro Try.func32 rfl Try.ntmps32 rfl fun w0 => ?_
  refine code_seq ?_
  refine code_region ?_
  refine o_box rfl rfl rfl (fun b2 => ?_)
  refine o_box rfl rfl rfl (fun b3 => ?_)
  refine op_v (v_assign rfl) rfl ?_
  refine ops_nil ?_
  refine post_next ?_
  refine code_seq ?_
  refine code_region ?_
  first | refine op_v (v_fieldB 0 Try.underlying49 rfl rfl fz4 rfl) rfl ?_ | refine op_v (v_fieldI 0 Try.underlying49 rfl rfl fz4 rfl (by assumption)) rfl ?_ | refine op_v (v_field Try.underlying49 rfl fz4 rfl rfl) rfl ?_
  refine op_v (v_loadA ty4 rfl rfl) rfl ?_
  first | refine op_v (v_fieldB 0 Try.underlying49 rfl rfl fz4 rfl) rfl ?_ | refine op_v (v_fieldI 0 Try.underlying49 rfl rfl fz4 rfl (by assumption)) rfl ?_ | refine op_v (v_field Try.underlying49 rfl fz4 rfl rfl) rfl ?_
  refine op_v (v_loadA ty4 rfl rfl) rfl ?_
  refine op_v (v_eqb (z := (x.neg == y.neg)) Try.underlying4 rfl rfl rfl) rfl ?_
  by_cases e1 : (x.neg == y.neg) = true
  · rw [e1]
    refine op_v (v_move rfl) rfl ?_
    first
      | (refine op_want rfl rfl ?_
         refine op_v (v_loadA ty49 rfl rfl) rfl ?_)
      | (refine op_skip rfl rfl (by simp [undef]) rfl ?_)
    first
      | (refine op_want rfl rfl ?_
         refine op_v (v_loadA ty49 rfl rfl) rfl ?_)
      | (refine op_skip rfl rfl (by simp [undef]) rfl ?_)
    first
      | (refine op_want rfl rfl ?_
         refine op_call pl78 rfl rfl ((equal_does (ha0.mono Imm.leA) (hb0.mono Imm.leA) h1 h2 h3 h4)) Parts.none ?_
         rintro _ I13 _ hI13 ⟨rfl, rfl⟩)
      | (refine op_skip rfl rfl (by simp [undef]) rfl ?_)
    first | refine op_v (v_pickt rfl rfl) rfl ?_ | refine op_v (v_pickf rfl rfl) rfl ?_ | refine op_v (v_pickb rfl rfl rfl) rfl ?_
    refine op_v (v_assign rfl) rfl ?_
    refine ops_nil ?_
    refine post_next ?_
    refine code_ret ?_
    refine post_ret (rs := [.tmp 4]) rfl (List.Perm.refl _) (.cons (.tmp rfl) .nil) (List.nil_sublist _) ?_
    exact ⟨by unfold sameL; rw [e1]; rfl, rfl⟩
  · have e1' : (x.neg == y.neg) = false := by simpa using e1
    rw [e1']
    refine op_v (v_move rfl) rfl ?_
    first
      | (refine op_want rfl rfl ?_
         refine op_v (v_loadA ty49 rfl rfl) rfl ?_)
      | (refine op_skip rfl rfl (by simp [undef]) rfl ?_)
    first
      | (refine op_want rfl rfl ?_
         refine op_v (v_loadA ty49 rfl rfl) rfl ?_)
      | (refine op_skip rfl rfl (by simp [undef]) rfl ?_)
    first
      | (refine op_want rfl rfl ?_
         refine op_call pl78 rfl rfl ((equal_does (ha0.mono Imm.leA) (hb0.mono Imm.leA) h1 h2 h3 h4)) Parts.none ?_
         rintro _ I13 _ hI13 ⟨rfl, rfl⟩)
      | (refine op_skip rfl rfl (by simp [undef]) rfl ?_)
    first | refine op_v (v_pickt rfl rfl) rfl ?_ | refine op_v (v_pickf rfl rfl) rfl ?_ | refine op_v (v_pickb rfl rfl rfl) rfl ?_
    refine op_v (v_assign rfl) rfl ?_
    refine ops_nil ?_
    refine post_next ?_
    refine code_ret ?_
    refine post_ret (rs := [.tmp 4]) rfl (List.Perm.refl _) (.cons (.tmp rfl) .nil) (List.nil_sublist _) ?_
    exact ⟨by unfold sameL; rw [e1']; rfl, rfl⟩
theorem LOpp_does {I : Imm} {va vb : Value} {x y : Li} (ha : RepL I va x) (hb : RepL I vb y) (h1 : x.l.size ≤ 1000000000) (h2 : x.r.size ≤ 1000000000) (h3 : y.l.size ≤ 1000000000) (h4 : y.r.size ≤ 1000000000) :
    Does Try.prog 119 [va, vb] I [] (fun v _ δ' => v = .bool (oppL x y) ∧ δ' = []) := by
  have ha0 := ha
  have hb0 := hb
  obtain ⟨la, lc, ra, rc, rfl, hl, hr⟩ := ha
  obtain ⟨ma, mc, na, nc, rfl, kl, kr⟩ := hb
  refine Does.intro Try.func119 rfl Try.ntmps119 rfl fun w0 => ?_
  refine code_seq ?_
  refine code_region ?_
  refine o_box rfl rfl rfl (fun b2 => ?_)
  refine o_box rfl rfl rfl (fun b3 => ?_)
  refine op_v (v_assign rfl) rfl ?_
  refine ops_nil ?_
  refine post_next ?_
  refine code_seq ?_
  refine code_region ?_
  first | refine op_v (v_fieldB 0 Try.underlying49 rfl rfl fz4 rfl) rfl ?_ | refine op_v (v_fieldI 0 Try.underlying49 rfl rfl fz4 rfl (by assumption)) rfl ?_ | refine op_v (v_field Try.underlying49 rfl fz4 rfl rfl) rfl ?_
  refine op_v (v_loadA ty4 rfl rfl) rfl ?_
  first | refine op_v (v_fieldB 0 Try.underlying49 rfl rfl fz4 rfl) rfl ?_ | refine op_v (v_fieldI 0 Try.underlying49 rfl rfl fz4 rfl (by assumption)) rfl ?_ | refine op_v (v_field Try.underlying49 rfl fz4 rfl rfl) rfl ?_
  refine op_v (v_loadA ty4 rfl rfl) rfl ?_
  refine op_v (v_eqb (z := !(x.neg == y.neg)) Try.underlying4 rfl rfl rfl) rfl ?_
  by_cases e1 : (x.neg == y.neg) = true
  · rw [e1]
    refine op_v (v_move rfl) rfl ?_
    first
      | (refine op_want rfl rfl ?_
         refine op_v (v_loadA ty49 rfl rfl) rfl ?_)
      | (refine op_skip rfl rfl (by simp [undef]) rfl ?_)
    first
      | (refine op_want rfl rfl ?_
         refine op_v (v_loadA ty49 rfl rfl) rfl ?_)
      | (refine op_skip rfl rfl (by simp [undef]) rfl ?_)
    first
      | (refine op_want rfl rfl ?_
         refine op_call pl78 rfl rfl ((equal_does (ha0.mono Imm.leA) (hb0.mono Imm.leA) h1 h2 h3 h4)) Parts.none ?_
         rintro _ I13 _ hI13 ⟨rfl, rfl⟩)
      | (refine op_skip rfl rfl (by simp [undef]) rfl ?_)
    first | refine op_v (v_pickt rfl rfl) rfl ?_ | refine op_v (v_pickf rfl rfl) rfl ?_ | refine op_v (v_pickb rfl rfl rfl) rfl ?_
    refine op_v (v_assign rfl) rfl ?_
    refine ops_nil ?_
    refine post_next ?_
    refine code_ret ?_
    refine post_ret (rs := [.tmp 4]) rfl (List.Perm.refl _) (.cons (.tmp rfl) .nil) (List.nil_sublist _) ?_
    exact ⟨by unfold oppL; rw [e1]; rfl, rfl⟩
  · have e1' : (x.neg == y.neg) = false := by simpa using e1
    rw [e1']
    refine op_v (v_move rfl) rfl ?_
    first
      | (refine op_want rfl rfl ?_
         refine op_v (v_loadA ty49 rfl rfl) rfl ?_)
      | (refine op_skip rfl rfl (by simp [undef]) rfl ?_)
    first
      | (refine op_want rfl rfl ?_
         refine op_v (v_loadA ty49 rfl rfl) rfl ?_)
      | (refine op_skip rfl rfl (by simp [undef]) rfl ?_)
    first
      | (refine op_want rfl rfl ?_
         refine op_call pl78 rfl rfl ((equal_does (ha0.mono Imm.leA) (hb0.mono Imm.leA) h1 h2 h3 h4)) Parts.none ?_
         rintro _ I13 _ hI13 ⟨rfl, rfl⟩)
      | (refine op_skip rfl rfl (by simp [undef]) rfl ?_)
    first | refine op_v (v_pickt rfl rfl) rfl ?_ | refine op_v (v_pickf rfl rfl) rfl ?_ | refine op_v (v_pickb rfl rfl rfl) rfl ?_
    refine op_v (v_assign rfl) rfl ?_
    refine ops_nil ?_
    refine post_next ?_
    refine code_ret ?_
    refine post_ret (rs := [.tmp 4]) rfl (List.Perm.refl _) (.cons (.tmp rfl) .nil) (List.nil_sublist _) ?_
    exact ⟨by unfold oppL; rw [e1']; rfl, rfl⟩
theorem LTrivial_does {I : Imm} {va : Value} {x : Li} (ha : RepL I va x) (h1 : x.l.size ≤ 1000000000) (h2 : x.r.size ≤ 1000000000) :
    Does Try.prog 31 [va] I [] (fun v _ δ' => v = .bool (decide (x.l = x.r)) ∧ δ' = []) := by
  obtain ⟨la, lc, ra, rc, rfl, hl, hr⟩ := ha
  refine Does.intro Try.func31 rfl Try.ntmps31 rfl fun w0 => ?_
  refine code_seq ?_
  refine code_region ?_
  refine o_box rfl rfl rfl (fun b1 => ?_)
  refine op_v (v_assign rfl) rfl ?_
  refine ops_nil ?_
  refine post_next ?_
  refine code_seq ?_
  refine code_region ?_
  first | refine op_v (v_fieldB 1 Try.underlying49 rfl rfl fz47 rfl) rfl ?_ | refine op_v (v_fieldI 1 Try.underlying49 rfl rfl fz47 rfl (by assumption)) rfl ?_ | refine op_v (v_field Try.underlying49 rfl fz47 rfl rfl) rfl ?_
  refine op_v (v_loadA ty47 rfl rfl) rfl ?_
  first | refine op_v (v_fieldB 3 Try.underlying49 rfl rfl fz47 rfl) rfl ?_ | refine op_v (v_fieldI 3 Try.underlying49 rfl rfl fz47 rfl (by assumption)) rfl ?_ | refine op_v (v_field Try.underlying49 rfl fz47 rfl rfl) rfl ?_
  refine op_v (v_loadA ty47 rfl rfl) rfl ?_
  refine op_call pl77 rfl rfl ((TSame_does (hl.mono Imm.leA) (hr.mono Imm.leA) h1 h2)) Parts.none ?_
  rintro _ I7 _ hI7 ⟨rfl, rfl⟩
  refine op_v (v_assign rfl) rfl ?_
  refine ops_nil ?_
  refine post_next ?_
  refine code_ret ?_
  refine post_ret (rs := [.tmp 2]) rfl (List.Perm.refl _) (.cons (.tmp rfl) .nil) (List.nil_sublist _) ?_
  exact ⟨rfl, rfl⟩
theorem Exact_does {I : Imm} {va vb : Value} {x y : Li} (ha : RepL I va x) (hb : RepL I vb y) (h1 : x.l.size ≤ 1000000000) (h2 : x.r.size ≤ 1000000000) (h3 : y.l.size ≤ 1000000000) (h4 : y.r.size ≤ 1000000000) :
    Does Try.prog 30 [va, vb] I [] (fun v _ δ' => v = .bool (exactL x y) ∧ δ' = []) := by
  obtain ⟨la, lc, ra, rc, rfl, hl, hr⟩ := ha
  obtain ⟨ma, mc, na, nc, rfl, kl, kr⟩ := hb
  refine Does.intro Try.func30 rfl Try.ntmps30 rfl fun w0 => ?_
  refine code_seq ?_
  refine code_region ?_
  refine o_box rfl rfl rfl (fun b2 => ?_)
  refine o_box rfl rfl rfl (fun b3 => ?_)
  refine op_v (v_assign rfl) rfl ?_
  refine ops_nil ?_
  refine post_next ?_
  refine code_seq ?_
  refine code_region ?_
  first | refine op_v (v_fieldB 0 Try.underlying49 rfl rfl fz4 rfl) rfl ?_ | refine op_v (v_fieldI 0 Try.underlying49 rfl rfl fz4 rfl (by assumption)) rfl ?_ | refine op_v (v_field Try.underlying49 rfl fz4 rfl rfl) rfl ?_
  refine op_v (v_loadA ty4 rfl rfl) rfl ?_
  first | refine op_v (v_fieldB 0 Try.underlying49 rfl rfl fz4 rfl) rfl ?_ | refine op_v (v_fieldI 0 Try.underlying49 rfl rfl fz4 rfl (by assumption)) rfl ?_ | refine op_v (v_field Try.underlying49 rfl fz4 rfl rfl) rfl ?_
  refine op_v (v_loadA ty4 rfl rfl) rfl ?_
  refine op_v (v_eqb (z := (x.neg == y.neg)) Try.underlying4 rfl rfl rfl) rfl ?_
  by_cases e1 : (x.neg == y.neg) = true
  · rw [e1]
    refine op_v (v_move rfl) rfl ?_
    first
      | (refine op_want rfl rfl ?_
         first | refine op_v (v_fieldB 1 Try.underlying49 rfl rfl fz47 rfl) rfl ?_ | refine op_v (v_fieldI 1 Try.underlying49 rfl rfl fz47 rfl (by assumption)) rfl ?_ | refine op_v (v_field Try.underlying49 rfl fz47 rfl rfl) rfl ?_)
      | (refine op_skip rfl rfl (by simp [undef]) rfl ?_)
    first
      | (refine op_want rfl rfl ?_
         refine op_v (v_loadA ty47 rfl rfl) rfl ?_)
      | (refine op_skip rfl rfl (by simp [undef]) rfl ?_)
    first
      | (refine op_want rfl rfl ?_
         first | refine op_v (v_fieldB 1 Try.underlying49 rfl rfl fz47 rfl) rfl ?_ | refine op_v (v_fieldI 1 Try.underlying49 rfl rfl fz47 rfl (by assumption)) rfl ?_ | refine op_v (v_field Try.underlying49 rfl fz47 rfl rfl) rfl ?_)
      | (refine op_skip rfl rfl (by simp [undef]) rfl ?_)
    first
      | (refine op_want rfl rfl ?_
         refine op_v (v_loadA ty47 rfl rfl) rfl ?_)
      | (refine op_skip rfl rfl (by simp [undef]) rfl ?_)
    first
      | (refine op_want rfl rfl ?_
         refine op_call pl76 rfl rfl ((Same_does _ _ _ _ _ (hl.mono Imm.leA) (kl.mono Imm.leA) h1 h3)) Parts.none ?_
         rintro _ I15 _ hI15 ⟨rfl, rfl⟩)
      | (refine op_skip rfl rfl (by simp [undef]) rfl ?_)
    by_cases e2 : x.l = y.l
    · rw [show decide (x.l = y.l) = true by simpa using e2]
      first | refine op_v (v_pickt rfl rfl) rfl ?_ | refine op_v (v_pickf rfl rfl) rfl ?_ | refine op_v (v_pickb rfl rfl rfl) rfl ?_
      refine op_v (v_move rfl) rfl ?_
      first
        | (refine op_want rfl rfl ?_
           first | refine op_v (v_fieldB 3 Try.underlying49 rfl rfl fz47 rfl) rfl ?_ | refine op_v (v_fieldI 3 Try.underlying49 rfl rfl fz47 rfl (by assumption)) rfl ?_ | refine op_v (v_field Try.underlying49 rfl fz47 rfl rfl) rfl ?_)
        | (refine op_skip rfl rfl (by simp [undef]) rfl ?_)
      first
        | (refine op_want rfl rfl ?_
           refine op_v (v_loadA ty47 rfl rfl) rfl ?_)
        | (refine op_skip rfl rfl (by simp [undef]) rfl ?_)
      first
        | (refine op_want rfl rfl ?_
           first | refine op_v (v_fieldB 3 Try.underlying49 rfl rfl fz47 rfl) rfl ?_ | refine op_v (v_fieldI 3 Try.underlying49 rfl rfl fz47 rfl (by assumption)) rfl ?_ | refine op_v (v_field Try.underlying49 rfl fz47 rfl rfl) rfl ?_)
        | (refine op_skip rfl rfl (by simp [undef]) rfl ?_)
      first
        | (refine op_want rfl rfl ?_
           refine op_v (v_loadA ty47 rfl rfl) rfl ?_)
        | (refine op_skip rfl rfl (by simp [undef]) rfl ?_)
      first
        | (refine op_want rfl rfl ?_
           refine op_call pl76 rfl rfl ((Same_does _ _ _ _ _ (hr.mono Imm.leA) (kr.mono Imm.leA) h2 h4)) Parts.none ?_
           rintro _ I22 _ hI22 ⟨rfl, rfl⟩)
        | (refine op_skip rfl rfl (by simp [undef]) rfl ?_)
      first | refine op_v (v_pickt rfl rfl) rfl ?_ | refine op_v (v_pickf rfl rfl) rfl ?_ | refine op_v (v_pickb rfl rfl rfl) rfl ?_
      refine op_v (v_assign rfl) rfl ?_
      refine ops_nil ?_
      refine post_next ?_
      refine code_ret ?_
      refine post_ret (rs := [.tmp 4]) rfl (List.Perm.refl _) (.cons (.tmp rfl) .nil) (List.nil_sublist _) ?_
      exact ⟨by unfold exactL; rw [e1, show decide (x.l = y.l) = true by simpa using e2]; rfl, rfl⟩
    · rw [show decide (x.l = y.l) = false by simpa using e2]
      first | refine op_v (v_pickt rfl rfl) rfl ?_ | refine op_v (v_pickf rfl rfl) rfl ?_ | refine op_v (v_pickb rfl rfl rfl) rfl ?_
      refine op_v (v_move rfl) rfl ?_
      first
        | (refine op_want rfl rfl ?_
           first | refine op_v (v_fieldB 3 Try.underlying49 rfl rfl fz47 rfl) rfl ?_ | refine op_v (v_fieldI 3 Try.underlying49 rfl rfl fz47 rfl (by assumption)) rfl ?_ | refine op_v (v_field Try.underlying49 rfl fz47 rfl rfl) rfl ?_)
        | (refine op_skip rfl rfl (by simp [undef]) rfl ?_)
      first
        | (refine op_want rfl rfl ?_
           refine op_v (v_loadA ty47 rfl rfl) rfl ?_)
        | (refine op_skip rfl rfl (by simp [undef]) rfl ?_)
      first
        | (refine op_want rfl rfl ?_
           first | refine op_v (v_fieldB 3 Try.underlying49 rfl rfl fz47 rfl) rfl ?_ | refine op_v (v_fieldI 3 Try.underlying49 rfl rfl fz47 rfl (by assumption)) rfl ?_ | refine op_v (v_field Try.underlying49 rfl fz47 rfl rfl) rfl ?_)
        | (refine op_skip rfl rfl (by simp [undef]) rfl ?_)
      first
        | (refine op_want rfl rfl ?_
           refine op_v (v_loadA ty47 rfl rfl) rfl ?_)
        | (refine op_skip rfl rfl (by simp [undef]) rfl ?_)
      first
        | (refine op_want rfl rfl ?_
           refine op_call pl76 rfl rfl ((Same_does _ _ _ _ _ (hr.mono Imm.leA) (kr.mono Imm.leA) h2 h4)) Parts.none ?_
           rintro _ I22 _ hI22 ⟨rfl, rfl⟩)
        | (refine op_skip rfl rfl (by simp [undef]) rfl ?_)
      first | refine op_v (v_pickt rfl rfl) rfl ?_ | refine op_v (v_pickf rfl rfl) rfl ?_ | refine op_v (v_pickb rfl rfl rfl) rfl ?_
      refine op_v (v_assign rfl) rfl ?_
      refine ops_nil ?_
      refine post_next ?_
      refine code_ret ?_
      refine post_ret (rs := [.tmp 4]) rfl (List.Perm.refl _) (.cons (.tmp rfl) .nil) (List.nil_sublist _) ?_
      exact ⟨by unfold exactL; rw [e1, show decide (x.l = y.l) = false by simpa using e2]; rfl, rfl⟩
  · have e1' : (x.neg == y.neg) = false := by simpa using e1
    rw [e1']
    refine op_v (v_move rfl) rfl ?_
    first
      | (refine op_want rfl rfl ?_
         first | refine op_v (v_fieldB 1 Try.underlying49 rfl rfl fz47 rfl) rfl ?_ | refine op_v (v_fieldI 1 Try.underlying49 rfl rfl fz47 rfl (by assumption)) rfl ?_ | refine op_v (v_field Try.underlying49 rfl fz47 rfl rfl) rfl ?_)
      | (refine op_skip rfl rfl (by simp [undef]) rfl ?_)
    first
      | (refine op_want rfl rfl ?_
         refine op_v (v_loadA ty47 rfl rfl) rfl ?_)
      | (refine op_skip rfl rfl (by simp [undef]) rfl ?_)
    first
      | (refine op_want rfl rfl ?_
         first | refine op_v (v_fieldB 1 Try.underlying49 rfl rfl fz47 rfl) rfl ?_ | refine op_v (v_fieldI 1 Try.underlying49 rfl rfl fz47 rfl (by assumption)) rfl ?_ | refine op_v (v_field Try.underlying49 rfl fz47 rfl rfl) rfl ?_)
      | (refine op_skip rfl rfl (by simp [undef]) rfl ?_)
    first
      | (refine op_want rfl rfl ?_
         refine op_v (v_loadA ty47 rfl rfl) rfl ?_)
      | (refine op_skip rfl rfl (by simp [undef]) rfl ?_)
    first
      | (refine op_want rfl rfl ?_
         refine op_call pl76 rfl rfl ((Same_does _ _ _ _ _ (hl.mono Imm.leA) (kl.mono Imm.leA) h1 h3)) Parts.none ?_
         rintro _ I15 _ hI15 ⟨rfl, rfl⟩)
      | (refine op_skip rfl rfl (by simp [undef]) rfl ?_)
    first | refine op_v (v_pickt rfl rfl) rfl ?_ | refine op_v (v_pickf rfl rfl) rfl ?_ | refine op_v (v_pickb rfl rfl rfl) rfl ?_
    refine op_v (v_move rfl) rfl ?_
    first
      | (refine op_want rfl rfl ?_
         first | refine op_v (v_fieldB 3 Try.underlying49 rfl rfl fz47 rfl) rfl ?_ | refine op_v (v_fieldI 3 Try.underlying49 rfl rfl fz47 rfl (by assumption)) rfl ?_ | refine op_v (v_field Try.underlying49 rfl fz47 rfl rfl) rfl ?_)
      | (refine op_skip rfl rfl (by simp [undef]) rfl ?_)
    first
      | (refine op_want rfl rfl ?_
         refine op_v (v_loadA ty47 rfl rfl) rfl ?_)
      | (refine op_skip rfl rfl (by simp [undef]) rfl ?_)
    first
      | (refine op_want rfl rfl ?_
         first | refine op_v (v_fieldB 3 Try.underlying49 rfl rfl fz47 rfl) rfl ?_ | refine op_v (v_fieldI 3 Try.underlying49 rfl rfl fz47 rfl (by assumption)) rfl ?_ | refine op_v (v_field Try.underlying49 rfl fz47 rfl rfl) rfl ?_)
      | (refine op_skip rfl rfl (by simp [undef]) rfl ?_)
    first
      | (refine op_want rfl rfl ?_
         refine op_v (v_loadA ty47 rfl rfl) rfl ?_)
      | (refine op_skip rfl rfl (by simp [undef]) rfl ?_)
    first
      | (refine op_want rfl rfl ?_
         refine op_call pl76 rfl rfl ((Same_does _ _ _ _ _ (hr.mono Imm.leA) (kr.mono Imm.leA) h2 h4)) Parts.none ?_
         rintro _ I22 _ hI22 ⟨rfl, rfl⟩)
      | (refine op_skip rfl rfl (by simp [undef]) rfl ?_)
    first | refine op_v (v_pickt rfl rfl) rfl ?_ | refine op_v (v_pickf rfl rfl) rfl ?_ | refine op_v (v_pickb rfl rfl rfl) rfl ?_
    refine op_v (v_assign rfl) rfl ?_
    refine ops_nil ?_
    refine post_next ?_
    refine code_ret ?_
    refine post_ret (rs := [.tmp 4]) rfl (List.Perm.refl _) (.cons (.tmp rfl) .nil) (List.nil_sublist _) ?_
    exact ⟨by unfold exactL; rw [e1']; rfl, rfl⟩
theorem FewL_does {I : Imm} {va : Value} {x : Li} (ha : RepL I va x) :
    Does Try.prog 52 [va] I [] (fun v _ δ' => v = .bool (fewL x) ∧ δ' = []) := by
  obtain ⟨la, lc, ra, rc, rfl, hl, hr⟩ := ha
  refine Does.intro Try.func52 rfl Try.ntmps52 rfl fun w0 => ?_
  refine code_seq ?_
  refine code_region ?_
  refine o_box rfl rfl rfl (fun b1 => ?_)
  refine op_v (v_assign rfl) rfl ?_
  refine ops_nil ?_
  refine post_next ?_
  refine code_seq ?_
  refine code_region ?_
  first | refine op_v (v_fieldB 1 Try.underlying49 rfl rfl fz47 rfl) rfl ?_ | refine op_v (v_fieldI 1 Try.underlying49 rfl rfl fz47 rfl (by assumption)) rfl ?_ | refine op_v (v_field Try.underlying49 rfl fz47 rfl rfl) rfl ?_
  refine op_v (v_loadA ty47 rfl rfl) rfl ?_
  refine op_call pl102 rfl rfl ((Few_does _ _ _ (hl.mono Imm.leA))) Parts.none ?_
  rintro _ I5 _ hI5 ⟨rfl, rfl⟩
  by_cases e1 : x.l.size ≤ 500
  · rw [show decide (x.l.size ≤ 500) = true by simpa using e1]
    refine op_v (v_move rfl) rfl ?_
    first
      | (refine op_want rfl rfl ?_
         first | refine op_v (v_fieldB 3 Try.underlying49 rfl rfl fz47 rfl) rfl ?_ | refine op_v (v_fieldI 3 Try.underlying49 rfl rfl fz47 rfl (by assumption)) rfl ?_ | refine op_v (v_field Try.underlying49 rfl fz47 rfl rfl) rfl ?_)
      | (refine op_skip rfl rfl (by simp [undef]) rfl ?_)
    first
      | (refine op_want rfl rfl ?_
         refine op_v (v_loadA ty47 rfl rfl) rfl ?_)
      | (refine op_skip rfl rfl (by simp [undef]) rfl ?_)
    first
      | (refine op_want rfl rfl ?_
         refine op_call pl102 rfl rfl ((Few_does _ _ _ (hr.mono Imm.leA))) Parts.none ?_
         rintro _ I9 _ hI9 ⟨rfl, rfl⟩)
      | (refine op_skip rfl rfl (by simp [undef]) rfl ?_)
    first | refine op_v (v_pickt rfl rfl) rfl ?_ | refine op_v (v_pickf rfl rfl) rfl ?_ | refine op_v (v_pickb rfl rfl rfl) rfl ?_
    refine op_v (v_assign rfl) rfl ?_
    refine ops_nil ?_
    refine post_next ?_
    refine code_ret ?_
    refine post_ret (rs := [.tmp 2]) rfl (List.Perm.refl _) (.cons (.tmp rfl) .nil) (List.nil_sublist _) ?_
    exact ⟨by unfold fewL; rw [show decide (x.l.size ≤ 500) = true by simpa using e1]; rfl, rfl⟩
  · rw [show decide (x.l.size ≤ 500) = false by simpa using e1]
    refine op_v (v_move rfl) rfl ?_
    first
      | (refine op_want rfl rfl ?_
         first | refine op_v (v_fieldB 3 Try.underlying49 rfl rfl fz47 rfl) rfl ?_ | refine op_v (v_fieldI 3 Try.underlying49 rfl rfl fz47 rfl (by assumption)) rfl ?_ | refine op_v (v_field Try.underlying49 rfl fz47 rfl rfl) rfl ?_)
      | (refine op_skip rfl rfl (by simp [undef]) rfl ?_)
    first
      | (refine op_want rfl rfl ?_
         refine op_v (v_loadA ty47 rfl rfl) rfl ?_)
      | (refine op_skip rfl rfl (by simp [undef]) rfl ?_)
    first
      | (refine op_want rfl rfl ?_
         refine op_call pl102 rfl rfl ((Few_does _ _ _ (hr.mono Imm.leA))) Parts.none ?_
         rintro _ I9 _ hI9 ⟨rfl, rfl⟩)
      | (refine op_skip rfl rfl (by simp [undef]) rfl ?_)
    first | refine op_v (v_pickt rfl rfl) rfl ?_ | refine op_v (v_pickf rfl rfl) rfl ?_ | refine op_v (v_pickb rfl rfl rfl) rfl ?_
    refine op_v (v_assign rfl) rfl ?_
    refine ops_nil ?_
    refine post_next ?_
    refine code_ret ?_
    refine post_ret (rs := [.tmp 2]) rfl (List.Perm.refl _) (.cons (.tmp rfl) .nil) (List.nil_sublist _) ?_
    exact ⟨by unfold fewL; rw [show decide (x.l.size ≤ 500) = false by simpa using e1]; rfl, rfl⟩
theorem Turn_does {I : Imm} {va : Value} {x : Li} (ha : RepL I va x) :
    Does Try.prog 79 [va] I [] (fun v I' δ' => RepL I' v ⟨x.neg, x.r, x.l⟩ ∧ δ' = []) := by
  obtain ⟨la, lc, ra, rc, rfl, hl, hr⟩ := ha
  refine Does.intro Try.func79 rfl Try.ntmps79 rfl fun w0 => ?_
  refine code_seq ?_
  refine code_region ?_
  refine o_box rfl rfl rfl (fun b1 => ?_)
  refine o_alloc z49 rfl rfl (fun b2 => ?_)
  refine ops_nil ?_
  refine post_next ?_
  refine code_seq ?_
  refine code_region ?_
  first | refine op_v (v_fieldB 0 Try.underlying49 rfl rfl fz4 rfl) rfl ?_ | refine op_v (v_fieldI 0 Try.underlying49 rfl rfl fz4 rfl (by assumption)) rfl ?_ | refine op_v (v_field Try.underlying49 rfl fz4 rfl rfl) rfl ?_
  refine op_v (v_loadA ty4 rfl rfl) rfl ?_
  first | refine op_v (v_fieldB 3 Try.underlying49 rfl rfl fz47 rfl) rfl ?_ | refine op_v (v_fieldI 3 Try.underlying49 rfl rfl fz47 rfl (by assumption)) rfl ?_ | refine op_v (v_field Try.underlying49 rfl fz47 rfl rfl) rfl ?_
  refine op_v (v_loadA ty47 rfl rfl) rfl ?_
  first | refine op_v (v_fieldB 1 Try.underlying49 rfl rfl fz47 rfl) rfl ?_ | refine op_v (v_fieldI 1 Try.underlying49 rfl rfl fz47 rfl (by assumption)) rfl ?_ | refine op_v (v_field Try.underlying49 rfl fz47 rfl rfl) rfl ?_
  refine op_v (v_loadA ty47 rfl rfl) rfl ?_
  refine op_v (v_build bl49 rfl rfl) rfl ?_
  refine o_store ty49 rfl rfl rfl rfl rfl (by repeat (first | exact Swap.here | apply Swap.there)) rfl ?_
  refine ops_nil ?_
  refine post_next ?_
  refine code_ret ?_
  refine post_ret (rs := [.cell 2 49]) rfl (List.Perm.refl _) (.cons (.cell rfl ty49 (by repeat (first | exact Has.here | apply Has.there)) rfl) .nil) (List.nil_sublist _) ?_
  exact ⟨⟨ra, rc, la, lc, rfl, hr, hl⟩, rfl⟩
theorem row_doesL {I : Imm} {va : Value} {x : Li} (ha : RepL I va x) :
    Does Try.prog 98 [va] I [] (fun v I' δ' => RepS I' v (rowL x) ∧ δ' = []) := by
  obtain ⟨la, lc, ra, rc, rfl, hl, hr⟩ := ha
  refine Does.intro Try.func98 rfl Try.ntmps98 rfl fun w0 => ?_
  refine code_seq ?_
  refine code_region ?_
  refine o_box rfl rfl rfl (fun b1 => ?_)
  refine op_v (v_assign rfl) rfl ?_
  refine ops_nil ?_
  refine post_next ?_
  refine code_seq ?_
  refine code_seq ?_
  refine code_region ?_
  first | refine op_v (v_fieldB 0 Try.underlying49 rfl rfl fz4 rfl) rfl ?_ | refine op_v (v_fieldI 0 Try.underlying49 rfl rfl fz4 rfl (by assumption)) rfl ?_ | refine op_v (v_field Try.underlying49 rfl fz4 rfl rfl) rfl ?_
  refine op_v (v_loadA ty4 rfl rfl) rfl ?_
  refine ops_nil ?_
  refine post_next ?_
  refine code_cond rfl (fun hc0 => ?_) (fun hc0 => ?_)
  · have hn : x.neg = true := hc0
    refine code_seq ?_
    refine code_region ?_
    first | refine op_v (v_fieldB 1 Try.underlying49 rfl rfl fz47 rfl) rfl ?_ | refine op_v (v_fieldI 1 Try.underlying49 rfl rfl fz47 rfl (by assumption)) rfl ?_ | refine op_v (v_field Try.underlying49 rfl fz47 rfl rfl) rfl ?_
    refine op_v (v_loadA ty47 rfl rfl) rfl ?_
    first | refine op_v (v_fieldB 1 Try.underlying49 rfl rfl fz47 rfl) rfl ?_ | refine op_v (v_fieldI 1 Try.underlying49 rfl rfl fz47 rfl (by assumption)) rfl ?_ | refine op_v (v_field Try.underlying49 rfl fz47 rfl rfl) rfl ?_
    refine op_v (v_loadA ty47 rfl rfl) rfl ?_
    first | refine op_v (v_fieldB 3 Try.underlying49 rfl rfl fz47 rfl) rfl ?_ | refine op_v (v_fieldI 3 Try.underlying49 rfl rfl fz47 rfl (by assumption)) rfl ?_ | refine op_v (v_field Try.underlying49 rfl fz47 rfl rfl) rfl ?_
    refine op_v (v_loadA ty47 rfl rfl) rfl ?_
    first | refine op_v (v_fieldB 3 Try.underlying49 rfl rfl fz47 rfl) rfl ?_ | refine op_v (v_fieldI 3 Try.underlying49 rfl rfl fz47 rfl (by assumption)) rfl ?_ | refine op_v (v_field Try.underlying49 rfl fz47 rfl rfl) rfl ?_
    refine op_v (v_loadA ty47 rfl rfl) rfl ?_
    refine o_buildSlice (xs := [(Go.Operand.tmp 6), (Go.Operand.tmp 8), (Go.Operand.tmp 10), (Go.Operand.tmp 12)]) Try.underlying45 bs47 rfl rfl rfl rfl rfl (fun b13 => ?_)
    refine OpsJ.freezeRow Del.here ?_
    rintro I13 a13 c13 hI13 hq hc13 hl13 hcells13
    cases hq
    refine op_v (v_assign rfl) rfl ?_
    refine ops_nil ?_
    refine post_next ?_
    refine code_ret ?_
    refine post_ret_then ?_
    refine post_ret (rs := [.tmp 2]) rfl (List.Perm.refl _) (.cons (.tmp rfl) .nil) (List.nil_sublist _) ?_
    exact ⟨by unfold rowL; rw [if_pos hn]; exact RowT.repS (ts := [x.l, x.l, x.r, x.r]) rfl hcells13 ((RowT.one (hl.mono Imm.leA)).app ((RowT.one (hl.mono Imm.leA)).app ((RowT.one (hr.mono Imm.leA)).app (RowT.one (hr.mono Imm.leA))))) hc13 (by omega), rfl⟩
  · have hn : ¬ x.neg = true := by rw [hc0]; simp
    refine code_skip ?_
    refine post_next ?_
    refine code_seq ?_
    refine code_region ?_
    first | refine op_v (v_fieldB 1 Try.underlying49 rfl rfl fz47 rfl) rfl ?_ | refine op_v (v_fieldI 1 Try.underlying49 rfl rfl fz47 rfl (by assumption)) rfl ?_ | refine op_v (v_field Try.underlying49 rfl fz47 rfl rfl) rfl ?_
    refine op_v (v_loadA ty47 rfl rfl) rfl ?_
    first | refine op_v (v_fieldB 3 Try.underlying49 rfl rfl fz47 rfl) rfl ?_ | refine op_v (v_fieldI 3 Try.underlying49 rfl rfl fz47 rfl (by assumption)) rfl ?_ | refine op_v (v_field Try.underlying49 rfl fz47 rfl rfl) rfl ?_
    refine op_v (v_loadA ty47 rfl rfl) rfl ?_
    refine o_buildSlice (xs := [(Go.Operand.tmp 15), (Go.Operand.tmp 17)]) Try.underlying45 bs47 rfl rfl rfl rfl rfl (fun b18 => ?_)
    refine OpsJ.freezeRow Del.here ?_
    rintro I18 a18 c18 hI18 hq hc18 hl18 hcells18
    cases hq
    refine op_v (v_assign rfl) rfl ?_
    refine ops_nil ?_
    refine post_next ?_
    refine code_ret ?_
    refine post_ret (rs := [.tmp 2]) rfl (List.Perm.refl _) (.cons (.tmp rfl) .nil) (List.nil_sublist _) ?_
    exact ⟨by unfold rowL; rw [if_neg hn]; exact RowT.repS (ts := [x.l, x.r]) rfl hcells18 ((RowT.one (hl.mono Imm.leA)).app (RowT.one (hr.mono Imm.leA))) hc18 (by omega), rfl⟩
end Go.Proofs.Ytdbadicpbmndbaa
/- Clauses, plainly: what is left of one behind Tidy. Walks: whether one of a row of literals is so; two clauses, literal by literal. -/
set_option linter.unusedVariables false
set_option linter.unusedSimpArgs false
set_option linter.unnecessarySimpa false
/- short -/
namespace Go.Proofs.Ytdbadicpbmndbaa
open Go Lg

/-! ### plain -/
def trivL (x : Li) : Bool := decide (x.l = x.r)
theorem eqL_comm (x y : Li) : eqL x y = eqL y x := by
  unfold eqL
  rw [Bool.eq_iff_iff]
  simp only [Bool.or_eq_true, Bool.and_eq_true, decide_eq_true_eq]
  constructor <;> (rintro (⟨h1, h2⟩ | ⟨h1, h2⟩) <;> simp [h1, h2])
theorem eqL_iff {x y : Li} : eqL x y = true ↔ (x.l = y.l ∧ x.r = y.r) ∨ (x.l = y.r ∧ x.r = y.l) := by
  unfold eqL
  simp only [Bool.or_eq_true, Bool.and_eq_true, decide_eq_true_eq]
theorem sameL_iff {x y : Li} : sameL x y = true ↔ x.neg = y.neg ∧ ((x.l = y.l ∧ x.r = y.r) ∨ (x.l = y.r ∧ x.r = y.l)) := by
  unfold sameL
  rw [Bool.and_eq_true, eqL_iff, beq_iff_eq]
theorem sameL_refl (x : Li) : sameL x x = true := sameL_iff.2 ⟨rfl, .inl ⟨rfl, rfl⟩⟩
theorem sameL_symm {x y : Li} (h : sameL x y = true) : sameL y x = true := by
  obtain ⟨h1, h2 | h2⟩ := sameL_iff.1 h
  · exact sameL_iff.2 ⟨h1.symm, .inl ⟨h2.1.symm, h2.2.symm⟩⟩
  · exact sameL_iff.2 ⟨h1.symm, .inr ⟨h2.2.symm, h2.1.symm⟩⟩
theorem sameL_comm (x y : Li) : sameL x y = sameL y x := by
  rw [Bool.eq_iff_iff]; exact ⟨sameL_symm, sameL_symm⟩
theorem sameL_trans {x y z : Li} (h : sameL x y = true) (k : sameL y z = true) : sameL x z = true := by
  obtain ⟨h1, h2⟩ := sameL_iff.1 h
  obtain ⟨k1, k2⟩ := sameL_iff.1 k
  refine sameL_iff.2 ⟨h1.trans k1, ?_⟩
  rcases h2 with ⟨a, b⟩ | ⟨a, b⟩ <;> rcases k2 with ⟨c, d⟩ | ⟨c, d⟩
  · exact .inl ⟨a.trans c, b.trans d⟩
  · exact .inr ⟨a.trans c, b.trans d⟩
  · exact .inr ⟨a.trans d, b.trans c⟩
  · exact .inl ⟨a.trans d, b.trans c⟩
theorem sameL_triv {x y : Li} (h : sameL x y = true) : (x.neg && trivL x) = (y.neg && trivL y) := by
  obtain ⟨h1, ⟨h2, h3⟩ | ⟨h2, h3⟩⟩ := sameL_iff.1 h
  · unfold trivL; rw [h1, h2, h3]
  · unfold trivL; rw [h1, h2, h3]
    congr 1
    rw [decide_eq_decide]; exact ⟨Eq.symm, Eq.symm⟩
theorem exactL_iff {x y : Li} : exactL x y = true ↔ x = y := by
  unfold exactL
  rw [Bool.and_eq_true, Bool.and_eq_true, decide_eq_true_eq, decide_eq_true_eq, beq_iff_eq]
  constructor
  · rintro ⟨h1, h2, h3⟩; cases x; cases y; simp_all
  · rintro rfl; exact ⟨rfl, rfl, rfl⟩
/-- what is not left -/
def goneL (acc : List Li) (x : Li) : Bool := acc.any (fun m => sameL x m) || (x.neg && trivL x)
def tidyGo (acc : List Li) : List Li → List Li
  | [] => acc
  | x :: r => tidyGo (if goneL acc x = true then acc else acc ++ [x]) r
def tidyL (c : List Li) : List Li := tidyGo [] c
theorem tidyGo_app (acc a b : List Li) : tidyGo acc (a ++ b) = tidyGo (tidyGo acc a) b := by
  induction a generalizing acc with
  | nil => rfl
  | cons x r ih => exact ih _
theorem tidyGo_pre (acc c : List Li) : ∃ d, tidyGo acc c = acc ++ d := by
  induction c generalizing acc with
  | nil => exact ⟨[], by simp [tidyGo]⟩
  | cons x r ih =>
    obtain ⟨d, hd⟩ := ih (if goneL acc x = true then acc else acc ++ [x])
    show ∃ d, tidyGo (if goneL acc x = true then acc else acc ++ [x]) r = acc ++ d
    rw [hd]
    split
    · exact ⟨d, rfl⟩
    · exact ⟨x :: d, by simp⟩
theorem tidyGo_len (acc c : List Li) : (tidyGo acc c).length ≤ acc.length + c.length := by
  induction c generalizing acc with
  | nil => simp [tidyGo]
  | cons x r ih =>
    have := ih (if goneL acc x = true then acc else acc ++ [x])
    show (tidyGo (if goneL acc x = true then acc else acc ++ [x]) r).length ≤ _
    split at this
    · rename_i h; rw [if_pos h]; simp only [List.length_cons]; omega
    · rename_i h; rw [if_neg h]; simp only [List.length_cons, List.length_append, List.length_nil] at this ⊢; omega
theorem tidyGo_mem (acc c : List Li) : ∀ x ∈ tidyGo acc c, x ∈ acc ∨ x ∈ c := by
  induction c generalizing acc with
  | nil => intro x hx; exact .inl hx
  | cons y r ih =>
    intro x hx
    rcases ih _ x hx with h | h
    · split at h
      · exact .inl h
      · rcases List.mem_append.1 h with h | h
        · exact .inl h
        · simp at h; subst h; exact .inr (List.mem_cons_self ..)
    · exact .inr (List.mem_cons_of_mem _ h)
/-- no two the same, none that says nothing -/
def NoTwo (t : List Li) : Prop := ∀ i j (hi : i < t.length) (hj : j < t.length), j < i → sameL t[i] t[j] = false ∧ (t[i].neg && trivL t[i]) = false
def NoneT (t : List Li) : Prop := ∀ x ∈ t, (x.neg && trivL x) = false
def TidyOK (t : List Li) : Prop := ∀ i (hi : i < t.length), goneL (t.take i) t[i] = false
theorem TidyOK.push {t : List Li} {x : Li} (h : TidyOK t) (hx : goneL t x = false) : TidyOK (t ++ [x]) := fun i hi => by
  by_cases q : i < t.length
  · rw [List.getElem_append_left q, List.take_append_of_le_length (by omega)]; exact h i q
  · have : i = t.length := by simp at hi; omega
    subst this
    rw [List.getElem_append_right (by omega), List.take_left]; simpa using hx
theorem tidyGo_ok (acc c : List Li) (h : TidyOK acc) : TidyOK (tidyGo acc c) := by
  induction c generalizing acc with
  | nil => exact h
  | cons x r ih =>
    show TidyOK (tidyGo (if goneL acc x = true then acc else acc ++ [x]) r)
    refine ih _ ?_
    split
    · exact h
    · rename_i q; exact h.push (by simpa using q)
theorem tidyL_ok (c : List Li) : TidyOK (tidyL c) := tidyGo_ok [] c fun i hi => by simp at hi
theorem TidyOK.same {t : List Li} (h : TidyOK t) {i j : Nat} (hi : i < t.length) (hij : j < i) : sameL t[i] (t[j]'(by omega)) = false := by
  have := h i hi
  unfold goneL at this
  rw [Bool.or_eq_false_iff] at this
  have h1 := List.any_eq_false.1 this.1 (t[j]'(by omega)) (List.mem_take_iff_getElem.2 ⟨j, by omega, rfl⟩)
  simpa using h1
theorem TidyOK.triv {t : List Li} (h : TidyOK t) {i : Nat} (hi : i < t.length) : (t[i].neg && trivL t[i]) = false := by
  have := h i hi
  unfold goneL at this
  rw [Bool.or_eq_false_iff] at this
  exact this.2
theorem TidyOK.idem {t : List Li} (h : TidyOK t) : tidyL t = t := by
  have key : ∀ n, n ≤ t.length → tidyGo [] (t.take n) = t.take n := by
    intro n
    induction n with
    | zero => intro _; rfl
    | succ n ih =>
      intro hn
      rw [List.take_succ_eq_append_getElem (by omega), tidyGo_app, ih (by omega)]
      show tidyGo (if goneL (t.take n) t[n] = true then _ else _) [] = _
      rw [if_neg (by rw [h n (by omega)]; simp)]; rfl
  have := key t.length (Nat.le_refl _)
  rwa [List.take_length] at this
theorem tidyL_idem (c : List Li) : tidyL (tidyL c) = tidyL c := (tidyL_ok c).idem
theorem tidyGo_succ (c : List Li) (k : Nat) (h : k < c.length) : tidyGo [] (c.take (k + 1)) = if goneL (tidyGo [] (c.take k)) c[k] = true then tidyGo [] (c.take k) else tidyGo [] (c.take k) ++ [c[k]] := by
  rw [List.take_succ_eq_append_getElem h, tidyGo_app]; rfl
theorem tidyL_take (c : List Li) (k : Nat) : ∃ d, tidyL c = tidyGo [] (c.take k) ++ d := by
  have := tidyGo_app [] (c.take k) (c.drop k)
  rw [List.take_append_drop] at this
  unfold tidyL; rw [this]; exact tidyGo_pre _ _
/-! ### walks -/
/-- a function of a literal -/
abbrev LitP (P : Program) (fv : Value) (I : Imm) (δf : List Ent) (c : List Li) (p : Li → Bool) : Prop := ∀ J x u, I.le J → LitE.R J x u → x ∈ c → FDoes P fv [.agg u.toArray] J δf (fun v _ δ' => v = .bool (p x) ∧ δ' = δf)
def IdxH (c : List Li) (p : Li → Bool) (n : Int) : Prop := (n = -1 ∧ c.any p = false) ∨ ∃ (j : Nat) (h : j < c.length), n = j ∧ p c[j] = true ∧ (c.take j).any p = false
theorem IdxH.any {c : List Li} {p : Li → Bool} {n : Int} (h : IdxH c p n) : decide (0 ≤ n) = c.any p := by
  rcases h with ⟨rfl, h⟩ | ⟨j, hj, rfl, h, _⟩
  · rw [h]; rfl
  · rw [show c.any p = true from List.any_eq_true.2 ⟨c[j], List.getElem_mem hj, h⟩]; simp
theorem IdxC_does {I : Imm} {v fv : Value} {c : List Li} {δf : List Ent} {p : Li → Bool} (hv : RepC I v c) (hf : LitP Try.prog fv I δf c p) :
    Does Try.prog 116 [v, fv] I δf (fun v _ δ' => (∃ n : Int, v = .int .i64 n ∧ IdxH c p n) ∧ δ' = δf) := by
  obtain ⟨ad, c0, xs, rfl, hc, hb, hcells, hrow⟩ := hv
  refine Does.intro Try.func116 rfl Try.ntmps116 rfl fun w0 => ?_
  refine code_seq ?_
  refine code_region ?_
  refine op_v (v_assign rfl) rfl ?_
  refine ops_nil ?_
  refine post_next ?_
  refine code_seq ?_
  refine code_seq ?_
  refine code_region ?_
  refine op_v (v_move rfl) rfl ?_
  refine op_v (v_len Try.underlying26 rfl) rfl ?_
  refine op_v (v_move rfl) rfl ?_
  refine ops_nil ?_
  refine post_next ?_
  refine code_block ?_
  refine code_loop (fun m σ' I' δ' => ∃ k : Nat, m = c.length - k ∧ k ≤ c.length ∧ σ' = [(0, .slice ad c.length c0), (1, fv), (7, .int .i64 c.length), (8, .int .i64 k)] ∧ I.le I' ∧ δ' = δf ∧ (c.take k).any p = false) c.length [(0, .slice ad c.length c0), (1, fv), (7, .int .i64 c.length), (8, .int .i64 (0 : Nat))] ⟨0, rfl, Nat.zero_le _, rfl, Imm.le_refl _, rfl, rfl⟩ ⟨rfl, rfl, rfl, rfl, trivial⟩ ?_
  rintro m _ I0 _ ⟨k, rfl, hk, rfl, hI0, rfl, hp⟩
  refine code_seq ?_
  refine code_region ?_
  first | refine op_v (v_cmptA rfl rfl rfl) rfl ?_ | refine op_v (v_cmpfA rfl rfl rfl) rfl ?_ | refine op_v (v_cmp rfl rfl rfl) rfl ?_
  refine ops_nil ?_
  refine post_next ?_
  refine code_seq ?_
  refine code_cond rfl (fun hc0 => ?_) (fun hc0 => ?_)
  · have hlt : k < c.length := by simpa using hc0
    obtain ⟨vs, ⟨la, lc, ra, rc, rfl, hl, hr⟩, hat⟩ := hrow.cellsAt hcells hlt
    have hs1 := hat.isSome
    refine code_skip ?_
    refine post_next ?_
    refine code_seq ?_
    refine code_block ?_
    refine code_seq ?_
    refine code_region ?_
    refine op_v (v_move rfl) rfl ?_
    refine op_v (v_assign rfl) rfl ?_
    refine ops_nil ?_
    refine post_next ?_
    refine code_seq ?_
    refine code_region ?_
    refine op_v (v_move rfl) rfl ?_
    refine op_v (v_move rfl) rfl ?_
    refine op_v (v_move rfl) rfl ?_
    first | refine op_v (v_indexA Try.underlying26 sz49 rfl rfl) rfl ?_ | refine op_v (v_indexIA Try.underlying26 sz49 rfl rfl) rfl ?_
    first | refine op_v (v_loadI0 ty49 (hat.mono hI0) rfl rfl rfl) rfl ?_ | refine op_v (v_loadI ty49 (hat.mono hI0) rfl rfl rfl) rfl ?_
    refine op_fcall rfl rfl rfl ((hf _ c[k] (liC c[k] la lc ra rc) hI0 ⟨la, lc, ra, rc, rfl, hl.mono hI0, hr.mono hI0⟩ (List.getElem_mem hlt))) Parts.all ?_
    rintro v16 I16 _ hI16 ⟨rfl, rfl⟩
    rw [List.append_nil]
    refine ops_nil ?_
    refine post_next ?_
    refine code_cond rfl (fun hc1 => ?_) (fun hc1 => ?_)
    · refine code_seq ?_
      refine code_region ?_
      refine op_v (v_move rfl) rfl ?_
      refine op_v (v_assign rfl) rfl ?_
      refine ops_nil ?_
      refine post_next ?_
      refine code_ret ?_
      refine post_ret_block ?_
      refine post_ret_then ?_
      refine post_ret_then ?_
      refine post_ret_block ?_
      refine post_ret_then ?_
      refine post_ret (rs := [.tmp 4]) rfl (List.Perm.refl _) (.cons (.tmp rfl) .nil) (List.Sublist.refl _) ?_
      exact ⟨⟨k, rfl, .inr ⟨k, hlt, rfl, hc1, hp⟩⟩, rfl⟩
    · refine code_skip ?_
      refine post_out ?_
      refine post_next ?_
      refine code_region ?_
      first | refine op_v (v_addb rfl rfl rfl (by omega)) rfl ?_ | refine op_v (v_add rfl rfl) rfl ?_
      refine op_v (v_move rfl) rfl ?_
      refine ops_nil ?_
      refine post_again (c.length - (k + 1)) [(0, .slice ad c.length c0), (1, fv), (7, .int .i64 c.length), (8, .int .i64 (k + 1 : Nat))] (by omega) ⟨k + 1, rfl, hlt, rfl, Imm.le_trans hI0 hI16, rfl, by rw [List.take_succ_eq_append_getElem hlt, List.any_append, hp]; simp [hc1]⟩ ⟨rfl, rfl, rfl, rfl, trivial⟩
  · have hge : k = c.length := by simp at hc0; omega
    subst hge
    rw [List.take_length] at hp
    refine code_exit ?_
    refine post_exit_then ?_
    refine post_exit_then ?_
    refine post_exit ?_
    refine post_next ?_
    refine code_seq ?_
    refine code_region ?_
    refine op_v (v_assign rfl) rfl ?_
    refine ops_nil ?_
    refine post_next ?_
    refine code_ret ?_
    refine post_ret (rs := [.tmp 4]) rfl (List.Perm.refl _) (.cons (.tmp rfl) .nil) (List.Sublist.refl _) ?_
    exact ⟨⟨-1, rfl, .inl ⟨rfl, hp⟩⟩, rfl⟩
abbrev cRow (A : Option Addr) (c : Nat) (n : Nat) (xs : List Value) : Ent := .row (.slice A n c) 49 5 n xs
theorem IdxR_doesC {I : Imm} {fv : Value} {A : Option Addr} {c0 : Nat} {c : List Li} {xs : List Value} {δf : List Ent} {p : Li → Bool} (hrow : RowE LitE I xs c) (hb : c.length ≤ 1954687338211) (hf : LitP Try.prog fv I δf c p) :
    Does Try.prog 116 [.slice A c.length c0, fv] I (cRow A c0 c.length xs :: δf) (fun v _ δ' => (∃ n : Int, v = .int .i64 n ∧ IdxH c p n) ∧ δ' = cRow A c0 c.length xs :: δf) := by
  refine Does.intro Try.func116 rfl Try.ntmps116 rfl fun w0 => ?_
  refine code_seq ?_
  refine code_region ?_
  refine op_v (v_assign rfl) rfl ?_
  refine ops_nil ?_
  refine post_next ?_
  refine code_seq ?_
  refine code_seq ?_
  refine code_region ?_
  refine op_v (v_move rfl) rfl ?_
  refine op_v (v_len Try.underlying26 rfl) rfl ?_
  refine op_v (v_move rfl) rfl ?_
  refine ops_nil ?_
  refine post_next ?_
  refine code_block ?_
  refine code_loop (fun m σ' I' δ' => ∃ k : Nat, m = c.length - k ∧ k ≤ c.length ∧ σ' = [(0, .slice A c.length c0), (1, fv), (7, .int .i64 c.length), (8, .int .i64 k)] ∧ I.le I' ∧ δ' = cRow A c0 c.length xs :: δf ∧ (c.take k).any p = false) c.length [(0, .slice A c.length c0), (1, fv), (7, .int .i64 c.length), (8, .int .i64 (0 : Nat))] ⟨0, rfl, Nat.zero_le _, rfl, Imm.le_refl _, rfl, rfl⟩ ⟨rfl, rfl, rfl, rfl, trivial⟩ ?_
  rintro m _ I0 _ ⟨k, rfl, hk, rfl, hI0, rfl, hp⟩
  refine code_seq ?_
  refine code_region ?_
  first | refine op_v (v_cmptA rfl rfl rfl) rfl ?_ | refine op_v (v_cmpfA rfl rfl rfl) rfl ?_ | refine op_v (v_cmp rfl rfl rfl) rfl ?_
  refine ops_nil ?_
  refine post_next ?_
  refine code_seq ?_
  refine code_cond rfl (fun hc0 => ?_) (fun hc0 => ?_)
  · have hlt : k < c.length := by simpa using hc0
    obtain ⟨vs, ⟨la, lc, ra, rc, rfl, hl, hr⟩, _, r, hdrop⟩ := hrow.at hlt
    refine code_skip ?_
    refine post_next ?_
    refine code_seq ?_
    refine code_block ?_
    refine code_seq ?_
    refine code_region ?_
    refine op_v (v_move rfl) rfl ?_
    refine op_v (v_assign rfl) rfl ?_
    refine ops_nil ?_
    refine post_next ?_
    refine code_seq ?_
    refine code_region ?_
    refine op_v (v_move rfl) rfl ?_
    refine op_v (v_move rfl) rfl ?_
    refine op_v (v_move rfl) rfl ?_
    refine OpsJ.rowSome Has.here (by omega) (fun hA hcr => ?_)
    first | refine op_v (v_indexA Try.underlying26 sz49 rfl rfl) rfl ?_ | refine op_v (v_indexIA Try.underlying26 sz49 rfl rfl) rfl ?_
    refine op_v (v_loadRow (v := .agg (liC c[k] la lc ra rc).toArray) ty49 rfl Has.here hA (by rw [hdrop]; rfl)) rfl ?_
    refine op_fcall rfl rfl rfl ((hf _ c[k] (liC c[k] la lc ra rc) hI0 ⟨la, lc, ra, rc, rfl, hl.mono hI0, hr.mono hI0⟩ (List.getElem_mem hlt))) (List.perm_append_comm (l₁ := [_])) ?_
    rintro v16 I16 _ hI16 ⟨rfl, rfl⟩
    refine OpsJ.view (View.perm (List.perm_append_comm (l₂ := [_]))) ?_
    refine ops_nil ?_
    refine post_next ?_
    refine code_cond rfl (fun hc1 => ?_) (fun hc1 => ?_)
    · refine code_seq ?_
      refine code_region ?_
      refine op_v (v_move rfl) rfl ?_
      refine op_v (v_assign rfl) rfl ?_
      refine ops_nil ?_
      refine post_next ?_
      refine code_ret ?_
      refine post_ret_block ?_
      refine post_ret_then ?_
      refine post_ret_then ?_
      refine post_ret_block ?_
      refine post_ret_then ?_
      refine post_ret (rs := [.tmp 4]) rfl (List.Perm.refl _) (.cons (.tmp rfl) .nil) (List.Sublist.refl _) ?_
      exact ⟨⟨k, rfl, .inr ⟨k, hlt, rfl, hc1, hp⟩⟩, rfl⟩
    · refine code_skip ?_
      refine post_out ?_
      refine post_next ?_
      refine code_region ?_
      first | refine op_v (v_addb rfl rfl rfl (by omega)) rfl ?_ | refine op_v (v_add rfl rfl) rfl ?_
      refine op_v (v_move rfl) rfl ?_
      refine ops_nil ?_
      refine post_again (c.length - (k + 1)) [(0, .slice A c.length c0), (1, fv), (7, .int .i64 c.length), (8, .int .i64 (k + 1 : Nat))] (by omega) ⟨k + 1, rfl, hlt, rfl, Imm.le_trans hI0 hI16, rfl, by rw [List.take_succ_eq_append_getElem hlt, List.any_append, hp]; simp [hc1]⟩ ⟨rfl, rfl, rfl, rfl, trivial⟩
  · have hge : k = c.length := by simp at hc0; omega
    subst hge
    rw [List.take_length] at hp
    refine code_exit ?_
    refine post_exit_then ?_
    refine post_exit_then ?_
    refine post_exit ?_
    refine post_next ?_
    refine code_seq ?_
    refine code_region ?_
    refine op_v (v_assign rfl) rfl ?_
    refine ops_nil ?_
    refine post_next ?_
    refine code_ret ?_
    refine post_ret (rs := [.tmp 4]) rfl (List.Perm.refl _) (.cons (.tmp rfl) .nil) (List.Sublist.refl _) ?_
    exact ⟨⟨-1, rfl, .inl ⟨rfl, hp⟩⟩, rfl⟩
theorem ContC_does {I : Imm} {v fv : Value} {c : List Li} {δf : List Ent} {p : Li → Bool} (hv : RepC I v c) (hf : LitP Try.prog fv I δf c p) :
    Does Try.prog 74 [v, fv] I δf (fun v _ δ' => v = .bool (c.any p) ∧ δ' = δf) := by
  refine Does.intro Try.func74 rfl Try.ntmps74 rfl fun w0 => ?_
  refine code_seq ?_
  refine code_region ?_
  refine op_v (v_assign rfl) rfl ?_
  refine ops_nil ?_
  refine post_next ?_
  refine code_seq ?_
  refine code_region ?_
  refine op_v (v_move rfl) rfl ?_
  refine op_v (v_move rfl) rfl ?_
  refine op_call pl116 rfl rfl ((IdxC_does hv hf)) Parts.all ?_
  rintro v7 I7 _ hI7 ⟨⟨n, rfl, hn⟩, rfl⟩
  rw [List.append_nil]
  refine op_v (v_cmp (z := c.any p) rfl rfl (by rw [← hn.any]; rfl)) rfl ?_
  refine op_v (v_assign rfl) rfl ?_
  refine ops_nil ?_
  refine post_next ?_
  refine code_ret ?_
  refine post_ret (rs := [.tmp 4]) rfl (List.Perm.refl _) (.cons (.tmp rfl) .nil) (List.Sublist.refl _) ?_
  exact ⟨rfl, rfl⟩
theorem ContR_doesC {I : Imm} {fv : Value} {A : Option Addr} {c0 : Nat} {c : List Li} {xs : List Value} {δf : List Ent} {p : Li → Bool} (hrow : RowE LitE I xs c) (hb : c.length ≤ 1954687338211) (hf : LitP Try.prog fv I δf c p) :
    Does Try.prog 74 [.slice A c.length c0, fv] I (cRow A c0 c.length xs :: δf) (fun v _ δ' => v = .bool (c.any p) ∧ δ' = cRow A c0 c.length xs :: δf) := by
  refine Does.intro Try.func74 rfl Try.ntmps74 rfl fun w0 => ?_
  refine code_seq ?_
  refine code_region ?_
  refine op_v (v_assign rfl) rfl ?_
  refine ops_nil ?_
  refine post_next ?_
  refine code_seq ?_
  refine code_region ?_
  refine op_v (v_move rfl) rfl ?_
  refine op_v (v_move rfl) rfl ?_
  refine op_call pl116 rfl rfl ((IdxR_doesC hrow hb hf)) Parts.all ?_
  rintro v7 I7 _ hI7 ⟨⟨n, rfl, hn⟩, rfl⟩
  rw [List.append_nil]
  refine op_v (v_cmp (z := c.any p) rfl rfl (by rw [← hn.any]; rfl)) rfl ?_
  refine op_v (v_assign rfl) rfl ?_
  refine ops_nil ?_
  refine post_next ?_
  refine code_ret ?_
  refine post_ret (rs := [.tmp 4]) rfl (List.Perm.refl _) (.cons (.tmp rfl) .nil) (List.Sublist.refl _) ?_
  exact ⟨rfl, rfl⟩
end Go.Proofs.Ytdbadicpbmndbaa
/- Walks: whether a literal is one of a signature; how two stand. -/
set_option linter.unusedVariables false
set_option linter.unusedSimpArgs false
set_option linter.unnecessarySimpa false
/- short -/
namespace Go.Proofs.Ytdbadicpbmndbaa
open Go Lg

abbrev siC (g : Value) (x : Li) (la : Option Addr) (lc : Nat) (ra : Option Addr) (rc : Nat) : List Value := g :: liC x la lc ra rc
def trL (gs : List Sy) (t : T) : Bool := decide (0 ≤ t.head) && trG gs t.head
def sortL (gs : List Sy) (x : Li) : Bool := (trL gs x.l && decide (x.r.head ≠ 0)) || (!trL gs x.l && trL gs x.r)
def litG (gs : List Sy) (x : Li) : Int := if termG gs x.l ≠ 0 then termG gs x.l else if termG gs x.r ≠ 0 then termG gs x.r else if sortL gs x = true then 10 else 0
theorem litG_ok {gs : List Sy} {x : Li} (h : litG gs x = 0) : OkG gs x.l ∧ OkG gs x.r := by
  unfold litG at h
  by_cases h1 : termG gs x.l = 0
  · by_cases h2 : termG gs x.r = 0
    · exact ⟨termG_ok.1 h1, termG_ok.1 h2⟩
    · rw [if_neg (by omega), if_pos h2] at h; exact absurd h h2
  · rw [if_pos h1] at h; exact absurd h h1
theorem left_does {I : Imm} {vg : Value} {gs : List Sy} {x : Li} {la ra : Option Addr} {lc rc : Nat} (hg : RepG I vg gs) (hl : RepT I (.agg #[.int .i64 x.l.head, .slice la x.l.args.length lc]) x.l) (h1 : x.l.size ≤ 1000000000) :
    Does Try.prog 132 [.agg #[vg, .bool x.neg, .int .i64 x.l.head, .slice la x.l.args.length lc, .int .i64 x.r.head, .slice ra x.r.args.length rc]] I [] (fun v _ δ' => v = .int .i64 (termG gs x.l) ∧ δ' = []) := by
  obtain ⟨ga, gc, rfl⟩ := hg.shape
  refine Does.intro Try.func132 rfl Try.ntmps132 rfl fun w0 => ?_
  refine code_seq ?_
  refine code_region ?_
  refine o_box rfl rfl rfl (fun b1 => ?_)
  refine op_v (v_assign rfl) rfl ?_
  refine ops_nil ?_
  refine post_next ?_
  refine code_seq ?_
  refine code_region ?_
  first | refine op_v (v_fieldB 0 Try.underlying153 rfl rfl fz22 rfl) rfl ?_ | refine op_v (v_fieldI 0 Try.underlying153 rfl rfl fz22 rfl (by assumption)) rfl ?_ | refine op_v (v_field Try.underlying153 rfl fz22 rfl rfl) rfl ?_
  refine op_v (v_loadA ty22 rfl rfl) rfl ?_
  first | refine op_v (v_fieldB 1 Try.underlying153 rfl rfl fz49 rfl) rfl ?_ | refine op_v (v_fieldI 1 Try.underlying153 rfl rfl fz49 rfl (by assumption)) rfl ?_ | refine op_v (v_field Try.underlying153 rfl fz49 rfl rfl) rfl ?_
  first | refine op_v (v_fieldB 1 Try.underlying49 rfl rfl fz47 rfl) rfl ?_ | refine op_v (v_fieldI 1 Try.underlying49 rfl rfl fz47 rfl (by assumption)) rfl ?_ | refine op_v (v_field Try.underlying49 rfl fz47 rfl rfl) rfl ?_
  refine op_v (v_loadA ty47 rfl rfl) rfl ?_
  refine op_call pl163 rfl rfl ((GTerm_does (hg.mono Imm.leA) (hl.mono Imm.leA) h1)) Parts.none ?_
  rintro _ I8 _ hI8 ⟨rfl, rfl⟩
  refine op_v (v_assign rfl) rfl ?_
  refine ops_nil ?_
  refine post_next ?_
  refine code_ret ?_
  refine post_ret (rs := [.tmp 2]) rfl (List.Perm.refl _) (.cons (.tmp rfl) .nil) (List.nil_sublist _) ?_
  exact ⟨rfl, rfl⟩
theorem right_does {I : Imm} {vg : Value} {gs : List Sy} {x : Li} {la ra : Option Addr} {lc rc : Nat} (hg : RepG I vg gs) (hl : RepT I (.agg #[.int .i64 x.r.head, .slice ra x.r.args.length rc]) x.r) (h1 : x.r.size ≤ 1000000000) :
    Does Try.prog 133 [.agg #[vg, .bool x.neg, .int .i64 x.l.head, .slice la x.l.args.length lc, .int .i64 x.r.head, .slice ra x.r.args.length rc]] I [] (fun v _ δ' => v = .int .i64 (termG gs x.r) ∧ δ' = []) := by
  obtain ⟨ga, gc, rfl⟩ := hg.shape
  refine Does.intro Try.func133 rfl Try.ntmps133 rfl fun w0 => ?_
  refine code_seq ?_
  refine code_region ?_
  refine o_box rfl rfl rfl (fun b1 => ?_)
  refine op_v (v_assign rfl) rfl ?_
  refine ops_nil ?_
  refine post_next ?_
  refine code_seq ?_
  refine code_region ?_
  first | refine op_v (v_fieldB 0 Try.underlying153 rfl rfl fz22 rfl) rfl ?_ | refine op_v (v_fieldI 0 Try.underlying153 rfl rfl fz22 rfl (by assumption)) rfl ?_ | refine op_v (v_field Try.underlying153 rfl fz22 rfl rfl) rfl ?_
  refine op_v (v_loadA ty22 rfl rfl) rfl ?_
  first | refine op_v (v_fieldB 1 Try.underlying153 rfl rfl fz49 rfl) rfl ?_ | refine op_v (v_fieldI 1 Try.underlying153 rfl rfl fz49 rfl (by assumption)) rfl ?_ | refine op_v (v_field Try.underlying153 rfl fz49 rfl rfl) rfl ?_
  first | refine op_v (v_fieldB 3 Try.underlying49 rfl rfl fz47 rfl) rfl ?_ | refine op_v (v_fieldI 3 Try.underlying49 rfl rfl fz47 rfl (by assumption)) rfl ?_ | refine op_v (v_field Try.underlying49 rfl fz47 rfl rfl) rfl ?_
  refine op_v (v_loadA ty47 rfl rfl) rfl ?_
  refine op_call pl163 rfl rfl ((GTerm_does (hg.mono Imm.leA) (hl.mono Imm.leA) h1)) Parts.none ?_
  rintro _ I8 _ hI8 ⟨rfl, rfl⟩
  refine op_v (v_assign rfl) rfl ?_
  refine ops_nil ?_
  refine post_next ?_
  refine code_ret ?_
  refine post_ret (rs := [.tmp 2]) rfl (List.Perm.refl _) (.cons (.tmp rfl) .nil) (List.nil_sublist _) ?_
  exact ⟨rfl, rfl⟩
theorem truth_does {I : Imm} {vg v : Value} {gs : List Sy} {t : T} {cs : List Value} (hg : RepG I vg gs) (hv : RepT I v t) (h5 : ∃ a b c d e, cs = [a, b, c, d, e]) (hh : 0 ≤ t.head → t.head < gs.length) :
    Does Try.prog 164 [.agg (vg :: cs).toArray, v] I [] (fun v _ δ' => v = .bool (trL gs t) ∧ δ' = []) := by
  obtain ⟨a, b, c, d, e, rfl⟩ := h5
  obtain ⟨ga, gc, rfl⟩ := hg.shape
  obtain ⟨_, hgc, hgb, hgat, hgok⟩ := hg.open
  obtain ⟨a0, c0, rfl, hr0⟩ := hv.shape
  refine Does.intro Try.func164 rfl Try.ntmps164 rfl fun w0 => ?_
  refine code_seq ?_
  refine code_region ?_
  refine o_box rfl rfl rfl (fun b2 => ?_)
  refine o_box rfl rfl rfl (fun b3 => ?_)
  refine op_v (v_assign rfl) rfl ?_
  refine ops_nil ?_
  refine post_next ?_
  refine code_seq ?_
  refine code_region ?_
  first | refine op_v (v_fieldB 0 Try.underlying47 rfl rfl fz3 rfl) rfl ?_ | refine op_v (v_fieldI 0 Try.underlying47 rfl rfl fz3 rfl (by assumption)) rfl ?_ | refine op_v (v_field Try.underlying47 rfl fz3 rfl rfl) rfl ?_
  refine op_v (v_loadA ty3 rfl rfl) rfl ?_
  by_cases h7 : 0 ≤ t.head
  · have hl0 := hh h7
    have hlt0 : t.head.toNat < gs.length := by omega
    have hs0 := (hgat _ hlt0).isSome
    first | refine op_v (v_cmptA rfl rfl rfl) rfl ?_ | refine op_v (v_cmpfA rfl rfl rfl) rfl ?_ | refine op_v (v_cmp rfl rfl rfl) rfl ?_
    refine op_v (v_move rfl) rfl ?_
    first
      | (refine op_want rfl rfl ?_
         first | refine op_v (v_fieldB 0 Try.underlying153 rfl rfl fz22 rfl) rfl ?_ | refine op_v (v_fieldI 0 Try.underlying153 rfl rfl fz22 rfl (by assumption)) rfl ?_ | refine op_v (v_field Try.underlying153 rfl fz22 rfl rfl) rfl ?_)
      | (refine op_skip rfl rfl (by simp [undef]) rfl ?_)
    first
      | (refine op_want rfl rfl ?_
         refine op_v (v_loadA ty22 rfl rfl) rfl ?_)
      | (refine op_skip rfl rfl (by simp [undef]) rfl ?_)
    first
      | (refine op_want rfl rfl ?_
         first | refine op_v (v_fieldB 0 Try.underlying47 rfl rfl fz3 rfl) rfl ?_ | refine op_v (v_fieldI 0 Try.underlying47 rfl rfl fz3 rfl (by assumption)) rfl ?_ | refine op_v (v_field Try.underlying47 rfl fz3 rfl rfl) rfl ?_)
      | (refine op_skip rfl rfl (by simp [undef]) rfl ?_)
    first
      | (refine op_want rfl rfl ?_
         refine op_v (v_loadA ty3 rfl rfl) rfl ?_)
      | (refine op_skip rfl rfl (by simp [undef]) rfl ?_)
    first
      | (refine op_want rfl rfl ?_
         first | refine op_v (v_indexA Try.underlying22 sz79 rfl rfl) rfl ?_ | refine op_v (v_indexIA Try.underlying22 sz79 rfl rfl) rfl ?_)
      | (refine op_skip rfl rfl (by simp [undef]) rfl ?_)
    first
      | (refine op_want rfl rfl ?_
         first | refine op_v (v_fieldB 3 Try.underlying79 rfl rfl fz4 rfl) rfl ?_ | refine op_v (v_fieldI 3 Try.underlying79 rfl rfl fz4 rfl (by assumption)) rfl ?_ | refine op_v (v_field Try.underlying79 rfl fz4 rfl rfl) rfl ?_)
      | (refine op_skip rfl rfl (by simp [undef]) rfl ?_)
    first
      | (refine op_want rfl rfl ?_
         first | refine op_v (v_loadI0 ty4 (hgat _ hlt0) rfl rfl rfl) rfl ?_ | refine op_v (v_loadI ty4 (hgat _ hlt0) rfl rfl rfl) rfl ?_)
      | (refine op_skip rfl rfl (by simp [undef]) rfl ?_)
    first | refine op_v (v_pickt rfl rfl) rfl ?_ | refine op_v (v_pickf rfl rfl) rfl ?_ | refine op_v (v_pickb rfl rfl rfl) rfl ?_
    refine op_v (v_assign rfl) rfl ?_
    refine ops_nil ?_
    refine post_next ?_
    refine code_ret ?_
    refine post_ret (rs := [.tmp 4]) rfl (List.Perm.refl _) (.cons (.tmp rfl) .nil) (List.nil_sublist _) ?_
    exact ⟨by simp [outV, trL, h7, trG_at h7 hl0], rfl⟩
  · first | refine op_v (v_cmptA rfl rfl rfl) rfl ?_ | refine op_v (v_cmpfA rfl rfl rfl) rfl ?_ | refine op_v (v_cmp rfl rfl rfl) rfl ?_
    refine op_v (v_move rfl) rfl ?_
    first
      | (refine op_want rfl rfl ?_
         first | refine op_v (v_fieldB 0 Try.underlying153 rfl rfl fz22 rfl) rfl ?_ | refine op_v (v_fieldI 0 Try.underlying153 rfl rfl fz22 rfl (by assumption)) rfl ?_ | refine op_v (v_field Try.underlying153 rfl fz22 rfl rfl) rfl ?_)
      | (refine op_skip rfl rfl (by simp [undef]) rfl ?_)
    first
      | (refine op_want rfl rfl ?_
         refine op_v (v_loadA ty22 rfl rfl) rfl ?_)
      | (refine op_skip rfl rfl (by simp [undef]) rfl ?_)
    first
      | (refine op_want rfl rfl ?_
         first | refine op_v (v_fieldB 0 Try.underlying47 rfl rfl fz3 rfl) rfl ?_ | refine op_v (v_fieldI 0 Try.underlying47 rfl rfl fz3 rfl (by assumption)) rfl ?_ | refine op_v (v_field Try.underlying47 rfl fz3 rfl rfl) rfl ?_)
      | (refine op_skip rfl rfl (by simp [undef]) rfl ?_)
    first
      | (refine op_want rfl rfl ?_
         refine op_v (v_loadA ty3 rfl rfl) rfl ?_)
      | (refine op_skip rfl rfl (by simp [undef]) rfl ?_)
    first
      | (refine op_want rfl rfl ?_
         first | refine op_v (v_indexA Try.underlying22 sz79 rfl rfl) rfl ?_ | refine op_v (v_indexIA Try.underlying22 sz79 rfl rfl) rfl ?_)
      | (refine op_skip rfl rfl (by simp [undef]) rfl ?_)
    first
      | (refine op_want rfl rfl ?_
         first | refine op_v (v_fieldB 3 Try.underlying79 rfl rfl fz4 rfl) rfl ?_ | refine op_v (v_fieldI 3 Try.underlying79 rfl rfl fz4 rfl (by assumption)) rfl ?_ | refine op_v (v_field Try.underlying79 rfl fz4 rfl rfl) rfl ?_)
      | (refine op_skip rfl rfl (by simp [undef]) rfl ?_)
    first
      | (refine op_want rfl rfl ?_
         first | refine op_v (v_loadI0 ty4 (hgat _ hlt0) rfl rfl rfl) rfl ?_ | refine op_v (v_loadI ty4 (hgat _ hlt0) rfl rfl rfl) rfl ?_)
      | (refine op_skip rfl rfl (by simp [undef]) rfl ?_)
    first | refine op_v (v_pickt rfl rfl) rfl ?_ | refine op_v (v_pickf rfl rfl) rfl ?_ | refine op_v (v_pickb rfl rfl rfl) rfl ?_
    refine op_v (v_assign rfl) rfl ?_
    refine ops_nil ?_
    refine post_next ?_
    refine code_ret ?_
    refine post_ret (rs := [.tmp 4]) rfl (List.Perm.refl _) (.cons (.tmp rfl) .nil) (List.nil_sublist _) ?_
    exact ⟨by simp [outV, trL, h7], rfl⟩
theorem sorts_does {I : Imm} {vg : Value} {gs : List Sy} {x : Li} {la ra : Option Addr} {lc rc : Nat} (hg : RepG I vg gs) (hl : RepT I (.agg #[.int .i64 x.l.head, .slice la x.l.args.length lc]) x.l) (hr : RepT I (.agg #[.int .i64 x.r.head, .slice ra x.r.args.length rc]) x.r) (h1 : 0 ≤ x.l.head → x.l.head < gs.length) (h2 : 0 ≤ x.r.head → x.r.head < gs.length) :
    Does Try.prog 134 [.agg #[vg, .bool x.neg, .int .i64 x.l.head, .slice la x.l.args.length lc, .int .i64 x.r.head, .slice ra x.r.args.length rc]] I [] (fun v _ δ' => v = .int .i64 (if sortL gs x = true then 10 else 0) ∧ δ' = []) := by
  obtain ⟨ga, gc, rfl⟩ := hg.shape
  refine Does.intro Try.func134 rfl Try.ntmps134 rfl fun w0 => ?_
  refine code_seq ?_
  refine code_region ?_
  refine o_box rfl rfl rfl (fun b1 => ?_)
  refine op_v (v_assign rfl) rfl ?_
  refine ops_nil ?_
  refine post_next ?_
  refine code_seq ?_
  refine code_region ?_
  refine op_v (v_load6 ty153 rfl rfl) rfl ?_
  first | refine op_v (v_fieldB 1 Try.underlying153 rfl rfl fz49 rfl) rfl ?_ | refine op_v (v_fieldI 1 Try.underlying153 rfl rfl fz49 rfl (by assumption)) rfl ?_ | refine op_v (v_field Try.underlying153 rfl fz49 rfl rfl) rfl ?_
  first | refine op_v (v_fieldB 1 Try.underlying49 rfl rfl fz47 rfl) rfl ?_ | refine op_v (v_fieldI 1 Try.underlying49 rfl rfl fz47 rfl (by assumption)) rfl ?_ | refine op_v (v_field Try.underlying49 rfl fz47 rfl rfl) rfl ?_
  refine op_v (v_loadA ty47 rfl rfl) rfl ?_
  refine op_call pl164 rfl rfl ((truth_does (cs := liC x la lc ra rc) (hg.mono Imm.leA) (hl.mono Imm.leA) ⟨_, _, _, _, _, rfl⟩ h1)) Parts.none ?_
  rintro _ I8 _ hI8 ⟨rfl, rfl⟩
  refine op_v (v_assign rfl) rfl ?_
  refine ops_nil ?_
  refine post_next ?_
  refine code_seq ?_
  refine code_seq ?_
  refine code_region ?_
  by_cases e1 : trL gs x.l = true
  · rw [e1]
    refine op_v (v_move rfl) rfl ?_
    refine op_v (v_move rfl) rfl ?_
    first
      | (refine op_want rfl rfl ?_
         first | refine op_v (v_fieldB 1 Try.underlying153 rfl rfl fz49 rfl) rfl ?_ | refine op_v (v_fieldI 1 Try.underlying153 rfl rfl fz49 rfl (by assumption)) rfl ?_ | refine op_v (v_field Try.underlying153 rfl fz49 rfl rfl) rfl ?_)
      | (refine op_skip rfl rfl (by simp [undef]) rfl ?_)
    first
      | (refine op_want rfl rfl ?_
         first | refine op_v (v_fieldB 3 Try.underlying49 rfl rfl fz47 rfl) rfl ?_ | refine op_v (v_fieldI 3 Try.underlying49 rfl rfl fz47 rfl (by assumption)) rfl ?_ | refine op_v (v_field Try.underlying49 rfl fz47 rfl rfl) rfl ?_)
      | (refine op_skip rfl rfl (by simp [undef]) rfl ?_)
    first
      | (refine op_want rfl rfl ?_
         first | refine op_v (v_fieldB 0 Try.underlying47 rfl rfl fz3 rfl) rfl ?_ | refine op_v (v_fieldI 0 Try.underlying47 rfl rfl fz3 rfl (by assumption)) rfl ?_ | refine op_v (v_field Try.underlying47 rfl fz3 rfl rfl) rfl ?_)
      | (refine op_skip rfl rfl (by simp [undef]) rfl ?_)
    first
      | (refine op_want rfl rfl ?_
         refine op_v (v_loadA ty3 rfl rfl) rfl ?_)
      | (refine op_skip rfl rfl (by simp [undef]) rfl ?_)
    by_cases e2 : x.r.head ≠ 0
    · first
        | (refine op_want rfl rfl ?_
           first | refine op_v (v_cmptA rfl rfl rfl) rfl ?_ | refine op_v (v_cmpfA rfl rfl rfl) rfl ?_ | refine op_v (v_cmp rfl rfl rfl) rfl ?_)
        | (refine op_skip rfl rfl (by simp [undef]) rfl ?_)
      first | refine op_v (v_pickt rfl rfl) rfl ?_ | refine op_v (v_pickf rfl rfl) rfl ?_ | refine op_v (v_pickb rfl rfl rfl) rfl ?_
      refine op_v (v_move rfl) rfl ?_
      first
        | (refine op_want rfl rfl ?_
           refine op_v (v_move rfl) rfl ?_)
        | (refine op_skip rfl rfl (by simp [undef]) rfl ?_)
      first
        | (refine op_want rfl rfl ?_
           refine op_v (v_not rfl) rfl ?_)
        | (refine op_skip rfl rfl (by simp [undef]) rfl ?_)
      first
        | (refine op_want rfl rfl ?_
           refine op_v (v_move rfl) rfl ?_)
        | (refine op_skip rfl rfl (by simp [undef]) rfl ?_)
      first
        | (refine op_want rfl rfl ?_
           refine op_v (v_load6 ty153 rfl rfl) rfl ?_)
        | (refine op_skip rfl rfl (by simp [undef]) rfl ?_)
      first
        | (refine op_want rfl rfl ?_
           first | refine op_v (v_fieldB 1 Try.underlying153 rfl rfl fz49 rfl) rfl ?_ | refine op_v (v_fieldI 1 Try.underlying153 rfl rfl fz49 rfl (by assumption)) rfl ?_ | refine op_v (v_field Try.underlying153 rfl fz49 rfl rfl) rfl ?_)
        | (refine op_skip rfl rfl (by simp [undef]) rfl ?_)
      first
        | (refine op_want rfl rfl ?_
           first | refine op_v (v_fieldB 3 Try.underlying49 rfl rfl fz47 rfl) rfl ?_ | refine op_v (v_fieldI 3 Try.underlying49 rfl rfl fz47 rfl (by assumption)) rfl ?_ | refine op_v (v_field Try.underlying49 rfl fz47 rfl rfl) rfl ?_)
        | (refine op_skip rfl rfl (by simp [undef]) rfl ?_)
      first
        | (refine op_want rfl rfl ?_
           refine op_v (v_loadA ty47 rfl rfl) rfl ?_)
        | (refine op_skip rfl rfl (by simp [undef]) rfl ?_)
      first
        | (refine op_want rfl rfl ?_
           refine op_call pl164 rfl rfl ((truth_does (cs := liC x la lc ra rc) (hg.mono Imm.leA) (hr.mono Imm.leA) ⟨_, _, _, _, _, rfl⟩ h2)) Parts.none ?_
           rintro _ I25 _ hI25 ⟨rfl, rfl⟩)
        | (refine op_skip rfl rfl (by simp [undef]) rfl ?_)
      first
        | (refine op_want rfl rfl ?_
           first | refine op_v (v_pickt rfl rfl) rfl ?_ | refine op_v (v_pickf rfl rfl) rfl ?_ | refine op_v (v_pickb rfl rfl rfl) rfl ?_)
        | (refine op_skip rfl rfl (by simp [undef]) rfl ?_)
      first | refine op_v (v_pickt rfl rfl) rfl ?_ | refine op_v (v_pickf rfl rfl) rfl ?_ | refine op_v (v_pickb rfl rfl rfl) rfl ?_
      refine ops_nil ?_
      refine post_next ?_
      refine code_cond_t rfl ?_
      refine code_seq ?_
      refine code_region ?_
      refine op_v (v_assign rfl) rfl ?_
      refine ops_nil ?_
      refine post_next ?_
      refine code_ret ?_
      refine post_ret_then ?_
      refine post_ret (rs := [.tmp 2]) rfl (List.Perm.refl _) (.cons (.tmp rfl) .nil) (List.nil_sublist _) ?_
      exact ⟨by rw [if_pos (by simp [sortL, e1, e2])]; rfl, rfl⟩
    · first
        | (refine op_want rfl rfl ?_
           first | refine op_v (v_cmptA rfl rfl rfl) rfl ?_ | refine op_v (v_cmpfA rfl rfl rfl) rfl ?_ | refine op_v (v_cmp rfl rfl rfl) rfl ?_)
        | (refine op_skip rfl rfl (by simp [undef]) rfl ?_)
      first | refine op_v (v_pickt rfl rfl) rfl ?_ | refine op_v (v_pickf rfl rfl) rfl ?_ | refine op_v (v_pickb rfl rfl rfl) rfl ?_
      refine op_v (v_move rfl) rfl ?_
      first
        | (refine op_want rfl rfl ?_
           refine op_v (v_move rfl) rfl ?_)
        | (refine op_skip rfl rfl (by simp [undef]) rfl ?_)
      first
        | (refine op_want rfl rfl ?_
           refine op_v (v_not rfl) rfl ?_)
        | (refine op_skip rfl rfl (by simp [undef]) rfl ?_)
      first
        | (refine op_want rfl rfl ?_
           refine op_v (v_move rfl) rfl ?_)
        | (refine op_skip rfl rfl (by simp [undef]) rfl ?_)
      first
        | (refine op_want rfl rfl ?_
           refine op_v (v_load6 ty153 rfl rfl) rfl ?_)
        | (refine op_skip rfl rfl (by simp [undef]) rfl ?_)
      first
        | (refine op_want rfl rfl ?_
           first | refine op_v (v_fieldB 1 Try.underlying153 rfl rfl fz49 rfl) rfl ?_ | refine op_v (v_fieldI 1 Try.underlying153 rfl rfl fz49 rfl (by assumption)) rfl ?_ | refine op_v (v_field Try.underlying153 rfl fz49 rfl rfl) rfl ?_)
        | (refine op_skip rfl rfl (by simp [undef]) rfl ?_)
      first
        | (refine op_want rfl rfl ?_
           first | refine op_v (v_fieldB 3 Try.underlying49 rfl rfl fz47 rfl) rfl ?_ | refine op_v (v_fieldI 3 Try.underlying49 rfl rfl fz47 rfl (by assumption)) rfl ?_ | refine op_v (v_field Try.underlying49 rfl fz47 rfl rfl) rfl ?_)
        | (refine op_skip rfl rfl (by simp [undef]) rfl ?_)
      first
        | (refine op_want rfl rfl ?_
           refine op_v (v_loadA ty47 rfl rfl) rfl ?_)
        | (refine op_skip rfl rfl (by simp [undef]) rfl ?_)
      first
        | (refine op_want rfl rfl ?_
           refine op_call pl164 rfl rfl ((truth_does (cs := liC x la lc ra rc) (hg.mono Imm.leA) (hr.mono Imm.leA) ⟨_, _, _, _, _, rfl⟩ h2)) Parts.none ?_
           rintro _ I25 _ hI25 ⟨rfl, rfl⟩)
        | (refine op_skip rfl rfl (by simp [undef]) rfl ?_)
      first
        | (refine op_want rfl rfl ?_
           first | refine op_v (v_pickt rfl rfl) rfl ?_ | refine op_v (v_pickf rfl rfl) rfl ?_ | refine op_v (v_pickb rfl rfl rfl) rfl ?_)
        | (refine op_skip rfl rfl (by simp [undef]) rfl ?_)
      first | refine op_v (v_pickt rfl rfl) rfl ?_ | refine op_v (v_pickf rfl rfl) rfl ?_ | refine op_v (v_pickb rfl rfl rfl) rfl ?_
      refine ops_nil ?_
      refine post_next ?_
      refine code_cond_f rfl ?_
      refine code_skip ?_
      refine post_next ?_
      refine code_seq ?_
      refine code_region ?_
      refine op_v (v_assign rfl) rfl ?_
      refine ops_nil ?_
      refine post_next ?_
      refine code_ret ?_
      refine post_ret (rs := [.tmp 2]) rfl (List.Perm.refl _) (.cons (.tmp rfl) .nil) (List.nil_sublist _) ?_
      exact ⟨by rw [if_neg (by simp [sortL, e1]; omega)]; rfl, rfl⟩
  · have e1' : trL gs x.l = false := by simpa using e1
    rw [e1']
    refine op_v (v_move rfl) rfl ?_
    refine op_v (v_move rfl) rfl ?_
    first
      | (refine op_want rfl rfl ?_
         first | refine op_v (v_fieldB 1 Try.underlying153 rfl rfl fz49 rfl) rfl ?_ | refine op_v (v_fieldI 1 Try.underlying153 rfl rfl fz49 rfl (by assumption)) rfl ?_ | refine op_v (v_field Try.underlying153 rfl fz49 rfl rfl) rfl ?_)
      | (refine op_skip rfl rfl (by simp [undef]) rfl ?_)
    first
      | (refine op_want rfl rfl ?_
         first | refine op_v (v_fieldB 3 Try.underlying49 rfl rfl fz47 rfl) rfl ?_ | refine op_v (v_fieldI 3 Try.underlying49 rfl rfl fz47 rfl (by assumption)) rfl ?_ | refine op_v (v_field Try.underlying49 rfl fz47 rfl rfl) rfl ?_)
      | (refine op_skip rfl rfl (by simp [undef]) rfl ?_)
    first
      | (refine op_want rfl rfl ?_
         first | refine op_v (v_fieldB 0 Try.underlying47 rfl rfl fz3 rfl) rfl ?_ | refine op_v (v_fieldI 0 Try.underlying47 rfl rfl fz3 rfl (by assumption)) rfl ?_ | refine op_v (v_field Try.underlying47 rfl fz3 rfl rfl) rfl ?_)
      | (refine op_skip rfl rfl (by simp [undef]) rfl ?_)
    first
      | (refine op_want rfl rfl ?_
         refine op_v (v_loadA ty3 rfl rfl) rfl ?_)
      | (refine op_skip rfl rfl (by simp [undef]) rfl ?_)
    first
      | (refine op_want rfl rfl ?_
         first | refine op_v (v_cmptA rfl rfl rfl) rfl ?_ | refine op_v (v_cmpfA rfl rfl rfl) rfl ?_ | refine op_v (v_cmp rfl rfl rfl) rfl ?_)
      | (refine op_skip rfl rfl (by simp [undef]) rfl ?_)
    first | refine op_v (v_pickt rfl rfl) rfl ?_ | refine op_v (v_pickf rfl rfl) rfl ?_ | refine op_v (v_pickb rfl rfl rfl) rfl ?_
    refine op_v (v_move rfl) rfl ?_
    first
      | (refine op_want rfl rfl ?_
         refine op_v (v_move rfl) rfl ?_)
      | (refine op_skip rfl rfl (by simp [undef]) rfl ?_)
    first
      | (refine op_want rfl rfl ?_
         refine op_v (v_not rfl) rfl ?_)
      | (refine op_skip rfl rfl (by simp [undef]) rfl ?_)
    first
      | (refine op_want rfl rfl ?_
         refine op_v (v_move rfl) rfl ?_)
      | (refine op_skip rfl rfl (by simp [undef]) rfl ?_)
    first
      | (refine op_want rfl rfl ?_
         refine op_v (v_load6 ty153 rfl rfl) rfl ?_)
      | (refine op_skip rfl rfl (by simp [undef]) rfl ?_)
    first
      | (refine op_want rfl rfl ?_
         first | refine op_v (v_fieldB 1 Try.underlying153 rfl rfl fz49 rfl) rfl ?_ | refine op_v (v_fieldI 1 Try.underlying153 rfl rfl fz49 rfl (by assumption)) rfl ?_ | refine op_v (v_field Try.underlying153 rfl fz49 rfl rfl) rfl ?_)
      | (refine op_skip rfl rfl (by simp [undef]) rfl ?_)
    first
      | (refine op_want rfl rfl ?_
         first | refine op_v (v_fieldB 3 Try.underlying49 rfl rfl fz47 rfl) rfl ?_ | refine op_v (v_fieldI 3 Try.underlying49 rfl rfl fz47 rfl (by assumption)) rfl ?_ | refine op_v (v_field Try.underlying49 rfl fz47 rfl rfl) rfl ?_)
      | (refine op_skip rfl rfl (by simp [undef]) rfl ?_)
    first
      | (refine op_want rfl rfl ?_
         refine op_v (v_loadA ty47 rfl rfl) rfl ?_)
      | (refine op_skip rfl rfl (by simp [undef]) rfl ?_)
    first
      | (refine op_want rfl rfl ?_
         refine op_call pl164 rfl rfl ((truth_does (cs := liC x la lc ra rc) (hg.mono Imm.leA) (hr.mono Imm.leA) ⟨_, _, _, _, _, rfl⟩ h2)) Parts.none ?_
         rintro _ I25 _ hI25 ⟨rfl, rfl⟩)
      | (refine op_skip rfl rfl (by simp [undef]) rfl ?_)
    by_cases e3 : trL gs x.r = true
    · rw [e3]
      first
        | (refine op_want rfl rfl ?_
           first | refine op_v (v_pickt rfl rfl) rfl ?_ | refine op_v (v_pickf rfl rfl) rfl ?_ | refine op_v (v_pickb rfl rfl rfl) rfl ?_)
        | (refine op_skip rfl rfl (by simp [undef]) rfl ?_)
      first | refine op_v (v_pickt rfl rfl) rfl ?_ | refine op_v (v_pickf rfl rfl) rfl ?_ | refine op_v (v_pickb rfl rfl rfl) rfl ?_
      refine ops_nil ?_
      refine post_next ?_
      refine code_cond_t rfl ?_
      refine code_seq ?_
      refine code_region ?_
      refine op_v (v_assign rfl) rfl ?_
      refine ops_nil ?_
      refine post_next ?_
      refine code_ret ?_
      refine post_ret_then ?_
      refine post_ret (rs := [.tmp 2]) rfl (List.Perm.refl _) (.cons (.tmp rfl) .nil) (List.nil_sublist _) ?_
      exact ⟨by rw [if_pos (by simp [sortL, e1', e3])]; rfl, rfl⟩
    · have e3' : trL gs x.r = false := by simpa using e3
      rw [e3']
      first
        | (refine op_want rfl rfl ?_
           first | refine op_v (v_pickt rfl rfl) rfl ?_ | refine op_v (v_pickf rfl rfl) rfl ?_ | refine op_v (v_pickb rfl rfl rfl) rfl ?_)
        | (refine op_skip rfl rfl (by simp [undef]) rfl ?_)
      first | refine op_v (v_pickt rfl rfl) rfl ?_ | refine op_v (v_pickf rfl rfl) rfl ?_ | refine op_v (v_pickb rfl rfl rfl) rfl ?_
      refine ops_nil ?_
      refine post_next ?_
      refine code_cond_f rfl ?_
      refine code_skip ?_
      refine post_next ?_
      refine code_seq ?_
      refine code_region ?_
      refine op_v (v_assign rfl) rfl ?_
      refine ops_nil ?_
      refine post_next ?_
      refine code_ret ?_
      refine post_ret (rs := [.tmp 2]) rfl (List.Perm.refl _) (.cons (.tmp rfl) .nil) (List.nil_sublist _) ?_
      exact ⟨by rw [if_neg (by simp [sortL, e1', e3'])]; rfl, rfl⟩
theorem first_does {I : Imm} {A : Option Addr} {vg : Value} {x : Li} {la ra : Option Addr} {lc rc : Nat} {fs : List Value} {es : List Int} (hcells : Cells I A fs) (hlen : fs.length = es.length) (hl3 : fs.length ≤ 1000) (hg1 : vg.oneCell' = true)
    (hf : ∀ J i (h : i < fs.length), I.le J → (∀ j (hj : j < es.length), j < i → es[j] = 0) → FDoes Try.prog fs[i] [.agg #[vg, .bool x.neg, .int .i64 x.l.head, .slice la x.l.args.length lc, .int .i64 x.r.head, .slice ra x.r.args.length rc]] J [] (fun v _ δ' => v = .int .i64 (es[i]'(by omega)) ∧ δ' = [])) :
    Does Try.prog 131 [.agg #[vg, .bool x.neg, .int .i64 x.l.head, .slice la x.l.args.length lc, .int .i64 x.r.head, .slice ra x.r.args.length rc], .slice A fs.length fs.length] I [] (fun v _ δ' => v = .int .i64 (orI es) ∧ δ' = []) := by
  have hat : ∀ i (h : i < fs.length), At I A (i * 1) [fs[i]] := fun i h => hcells.at _ fun j u hj => by
    rcases j with _ | j
    · simp at hj; subst hj; simp [h]
    · simp at hj
  refine Does.intro Try.func131 rfl Try.ntmps131 rfl fun w0 => ?_
  refine code_seq ?_
  refine code_region ?_
  refine o_box rfl rfl rfl (fun b2 => ?_)
  refine op_v (v_assign rfl) rfl ?_
  refine ops_nil ?_
  refine post_next ?_
  refine code_seq ?_
  refine code_seq ?_
  refine code_region ?_
  refine op_v (v_move rfl) rfl ?_
  refine op_v (v_len Try.underlying181 rfl) rfl ?_
  refine op_v (v_move rfl) rfl ?_
  refine ops_nil ?_
  refine post_next ?_
  refine code_block ?_
  refine code_loop (fun m σ' I' δ' => ∃ k : Nat, m = fs.length - k ∧ k ≤ fs.length ∧ σ' = [(2, .pointer (some ⟨b2, 0, none⟩)), (8, .slice A fs.length fs.length), (9, .int .i64 fs.length), (10, .int .i64 k)] ∧ I.le I' ∧ δ' = [.box b2 153 [vg, .bool x.neg, .int .i64 x.l.head, .slice la x.l.args.length lc, .int .i64 x.r.head, .slice ra x.r.args.length rc]] ∧ orI es = orI (es.drop k) ∧ ∀ j (hj : j < es.length), j < k → es[j] = 0) fs.length [(2, .pointer (some ⟨b2, 0, none⟩)), (8, .slice A fs.length fs.length), (9, .int .i64 fs.length), (10, .int .i64 (0 : Nat))] ⟨0, rfl, Nat.zero_le _, rfl, Imm.le_refl _, rfl, rfl, fun j _ h => by omega⟩ ⟨rfl, rfl, rfl, rfl, trivial⟩ ?_
  rintro m _ I0 _ ⟨k, rfl, hk, rfl, hI0, rfl, hp, hz⟩
  refine code_seq ?_
  refine code_region ?_
  first | refine op_v (v_cmptA rfl rfl rfl) rfl ?_ | refine op_v (v_cmpfA rfl rfl rfl) rfl ?_ | refine op_v (v_cmp rfl rfl rfl) rfl ?_
  refine ops_nil ?_
  refine post_next ?_
  refine code_seq ?_
  refine code_cond rfl (fun hc0 => ?_) (fun hc0 => ?_)
  · have hlt : k < fs.length := by simpa using hc0
    have hlt2 : k < es.length := by omega
    have hs1 := (hat k hlt).isSome
    rw [List.drop_eq_getElem_cons hlt2] at hp
    refine code_skip ?_
    refine post_next ?_
    refine code_seq ?_
    refine code_block ?_
    refine code_seq ?_
    refine code_region ?_
    first | refine op_v (v_indexA Try.underlying181 sz154 rfl rfl) rfl ?_ | refine op_v (v_indexIA Try.underlying181 sz154 rfl rfl) rfl ?_
    first | refine op_v (v_loadI0 ty154 ((hat k hlt).mono hI0) rfl rfl rfl) rfl ?_ | refine op_v (v_loadI ty154 ((hat k hlt).mono hI0) rfl rfl rfl) rfl ?_
    refine op_v (v_assign rfl) rfl ?_
    refine ops_nil ?_
    refine post_next ?_
    refine code_seq ?_
    refine code_region ?_
    refine op_v (v_move rfl) rfl ?_
    refine op_v (v_load6 ty153 rfl rfl) rfl ?_
    refine op_fcall rfl rfl rfl ((hf _ k hlt Imm.leA hz)) Parts.none ?_
    rintro _ I16 _ hI16 ⟨rfl, rfl⟩
    refine op_v (v_assign rfl) rfl ?_
    refine ops_nil ?_
    refine post_next ?_
    refine code_seq ?_
    refine code_region ?_
    refine op_v (v_move rfl) rfl ?_
    first | refine op_v (v_cmptA rfl rfl rfl) rfl ?_ | refine op_v (v_cmpfA rfl rfl rfl) rfl ?_ | refine op_v (v_cmp rfl rfl rfl) rfl ?_
    refine ops_nil ?_
    refine post_next ?_
    refine code_cond rfl (fun hc1 => ?_) (fun hc1 => ?_)
    · have hne : es[k] ≠ 0 := by simpa using hc1
      refine code_seq ?_
      refine code_region ?_
      refine op_v (v_move rfl) rfl ?_
      refine op_v (v_assign rfl) rfl ?_
      refine ops_nil ?_
      refine post_next ?_
      refine code_ret ?_
      refine post_ret_block ?_
      refine post_ret_then ?_
      refine post_ret_then ?_
      refine post_ret_block ?_
      refine post_ret_then ?_
      refine post_ret (rs := [.tmp 4]) rfl (List.Perm.refl _) (.cons (.tmp rfl) .nil) (List.nil_sublist _) ?_
      exact ⟨by rw [hp]; simp [outV, orI, hne], rfl⟩
    · have heq : es[k] = 0 := by simpa using hc1
      refine code_skip ?_
      refine post_out ?_
      refine post_next ?_
      refine code_region ?_
      first | refine op_v (v_addb rfl rfl rfl (by omega)) rfl ?_ | refine op_v (v_add rfl rfl) rfl ?_
      refine op_v (v_move rfl) rfl ?_
      refine ops_nil ?_
      refine post_again (fs.length - (k + 1)) [(2, .pointer (some ⟨b2, 0, none⟩)), (8, .slice A fs.length fs.length), (9, .int .i64 fs.length), (10, .int .i64 (k + 1 : Nat))] (by omega) ⟨k + 1, rfl, hlt, rfl, Imm.leA, rfl, by rw [hp]; simp [orI, heq], fun j hj hjk => ?_⟩ ⟨rfl, rfl, rfl, rfl, trivial⟩
      rcases Nat.lt_or_ge j k with hq | hq
      · exact hz j hj hq
      have hq2 : j = k := by omega
      subst hq2
      exact heq
  · have hge : k = es.length := by simp at hc0; omega
    rw [hge, List.drop_length] at hp
    refine code_exit ?_
    refine post_exit_then ?_
    refine post_exit_then ?_
    refine post_exit ?_
    refine post_next ?_
    refine code_seq ?_
    refine code_region ?_
    refine op_v (v_assign rfl) rfl ?_
    refine ops_nil ?_
    refine post_next ?_
    refine code_ret ?_
    refine post_ret (rs := [.tmp 4]) rfl (List.Perm.refl _) (.cons (.tmp rfl) .nil) (List.nil_sublist _) ?_
    exact ⟨by rw [hp]; simp [outV, orI], rfl⟩

theorem LCheck_does {I : Imm} {vg va : Value} {gs : List Sy} {x : Li} (hg : RepG I vg gs) (ha : RepL I va x) (h1 : x.l.size ≤ 1000000000) (h2 : x.r.size ≤ 1000000000) :
    Does Try.prog 94 [vg, va] I [] (fun v _ δ' => v = .int .i64 (litG gs x) ∧ δ' = []) := by
  obtain ⟨la, lc, ra, rc, rfl, hl, hr⟩ := ha
  obtain ⟨ga, gc, rfl⟩ := hg.shape
  have hor : orI [termG gs x.l, termG gs x.r, if sortL gs x = true then 10 else 0] = litG gs x := by
    unfold litG; simp only [orI]
    split <;> (try rfl)
    split <;> (try rfl)
    split <;> rfl
  refine Does.intro Try.func94 rfl Try.ntmps94 rfl fun w0 => ?_
  refine code_seq ?_
  refine code_region ?_
  refine o_box rfl rfl rfl (fun b3 => ?_)
  refine op_v (v_assign rfl) rfl ?_
  refine ops_nil ?_
  refine post_next ?_
  refine code_seq ?_
  refine code_region ?_
  refine op_v (v_move rfl) rfl ?_
  refine op_v (v_loadA ty49 rfl rfl) rfl ?_
  refine op_v (v_build (cs := [.slice ga gs.length gc, .bool x.neg, .int .i64 x.l.head, .slice la x.l.args.length lc, .int .i64 x.r.head, .slice ra x.r.args.length rc]) bl153 rfl rfl) rfl ?_
  refine o_buildSlice (xs := [(Go.Operand.func 132), (Go.Operand.func 133), (Go.Operand.func 134)]) Try.underlying181 bs154 rfl rfl rfl rfl rfl (fun b8 => ?_)
  refine OpsJ.freezeRow Del.here ?_
  rintro I8 a8 c8 hI8 hq hc8 hl8 hcells8
  cases hq
  have hc3 : Cells I8 _ [.func (.func 132) #[] #[], .func (.func 133) #[] #[], .func (.func 134) #[] #[]] := hcells8
  have hF0 : ∀ J, I8.le J → FDoes Try.prog (.func (.func 132) #[] #[]) [.agg #[.slice ga gs.length gc, .bool x.neg, .int .i64 x.l.head, .slice la x.l.args.length lc, .int .i64 x.r.head, .slice ra x.r.args.length rc]] J [] (fun v _ δ' => v = .int .i64 (termG gs x.l) ∧ δ' = []) := fun J hJ => FDoes.ofFunc (caps := []) (show Plainf Try.prog 132 = true by kernel_rfl) (left_does (x := x) (hg.mono Imm.leA) (hl.mono Imm.leA) h1)
  have hF1 : ∀ J, I8.le J → FDoes Try.prog (.func (.func 133) #[] #[]) [.agg #[.slice ga gs.length gc, .bool x.neg, .int .i64 x.l.head, .slice la x.l.args.length lc, .int .i64 x.r.head, .slice ra x.r.args.length rc]] J [] (fun v _ δ' => v = .int .i64 (termG gs x.r) ∧ δ' = []) := fun J hJ => FDoes.ofFunc (caps := []) (show Plainf Try.prog 133 = true by kernel_rfl) (right_does (x := x) (hg.mono Imm.leA) (hr.mono Imm.leA) h2)
  have hF2 : ∀ J, I8.le J → OkG gs x.l → OkG gs x.r → FDoes Try.prog (.func (.func 134) #[] #[]) [.agg #[.slice ga gs.length gc, .bool x.neg, .int .i64 x.l.head, .slice la x.l.args.length lc, .int .i64 x.r.head, .slice ra x.r.args.length rc]] J [] (fun v _ δ' => v = .int .i64 (if sortL gs x = true then 10 else 0) ∧ δ' = []) := fun J hJ z1 z2 => by
    have q1 := z1.heads (true, x.l) (by rw [visT_eq]; exact List.mem_cons_self ..)
    have q2 := z2.heads (true, x.r) (by rw [visT_eq]; exact List.mem_cons_self ..)
    simp only at q1 q2
    exact FDoes.ofFunc (caps := []) (show Plainf Try.prog 134 = true by kernel_rfl) (sorts_does (x := x) (hg.mono Imm.leA) (hl.mono Imm.leA) (hr.mono Imm.leA) (by omega) (by omega))
  have hF : ∀ J i (h : i < [Value.func (.func 132) #[] #[], Value.func (.func 133) #[] #[], Value.func (.func 134) #[] #[]].length), I8.le J → (∀ j (hj : j < [termG gs x.l, termG gs x.r, if sortL gs x = true then 10 else 0].length), j < i → [termG gs x.l, termG gs x.r, if sortL gs x = true then 10 else 0][j] = 0) → FDoes Try.prog [Value.func (.func 132) #[] #[], Value.func (.func 133) #[] #[], Value.func (.func 134) #[] #[]][i] [.agg #[.slice ga gs.length gc, .bool x.neg, .int .i64 x.l.head, .slice la x.l.args.length lc, .int .i64 x.r.head, .slice ra x.r.args.length rc]] J [] (fun v _ δ' => v = .int .i64 ([termG gs x.l, termG gs x.r, if sortL gs x = true then 10 else 0][i]'(by simpa using h)) ∧ δ' = []) := fun J i hi hJ hz => by
    rcases i with _ | _ | _ | i
    · exact hF0 J hJ
    · exact hF1 J hJ
    · exact hF2 J hJ (termG_ok.1 (hz 0 (by simp) (by omega))) (termG_ok.1 (hz 1 (by simp) (by omega)))
    · simp at hi; omega
  have hfd := first_does (A := some ⟨b8, 0, none⟩) (x := x) (vg := .slice ga gs.length gc) (la := la) (ra := ra) (lc := lc) (rc := rc) (es := [termG gs x.l, termG gs x.r, if sortL gs x = true then 10 else 0]) hc3 (by simp) (by simp) rfl hF
  rw [hor] at hfd
  refine op_call pl131 rfl rfl (hfd) Parts.none ?_
  rintro _ I9 _ hI9 ⟨rfl, rfl⟩
  refine op_v (v_assign rfl) rfl ?_
  refine ops_nil ?_
  refine post_next ?_
  refine code_ret ?_
  refine post_ret (rs := [.tmp 4]) rfl (List.Perm.refl _) (.cons (.tmp rfl) .nil) (List.nil_sublist _) ?_
  exact ⟨rfl, rfl⟩
end Go.Proofs.Ytdbadicpbmndbaa
/- Walks: a clause's sides, what is left of it, whether it always holds, whether it is right, its variables. -/
set_option linter.unusedVariables false
set_option linter.unusedSimpArgs false
set_option linter.unnecessarySimpa false
/- short -/
namespace Go.Proofs.Ytdbadicpbmndbaa
open Go Lg

/-- sides of no great size -/
def SmC (c : List Li) : Prop := ∀ x ∈ c, x.l.size ≤ 1000000000 ∧ x.r.size ≤ 1000000000
theorem FewC.sm {c : List Li} (h : FewC c) : SmC c := fun x hx => by have := h.sides x hx; omega
theorem SmC.at {c : List Li} (h : SmC c) {k : Nat} (hk : k < c.length) : c[k].l.size ≤ 1000000000 ∧ c[k].r.size ≤ 1000000000 := h _ (List.getElem_mem hk)
theorem SmC.sub {c d : List Li} (h : SmC c) (hd : ∀ x ∈ d, x ∈ c) : SmC d := fun x hx => h x (hd x hx)
theorem Cterms_does {I : Imm} {v : Value} {c : List Li} (hv : RepC I v c) :
    Does Try.prog 85 [v] I [] (fun v I' δ' => RepS I' v (sidesL c) ∧ δ' = []) := by
  obtain ⟨ad, c0, xs, rfl, hc, hb, hcells, hrow⟩ := hv
  refine Does.intro Try.func85 rfl Try.ntmps85 rfl fun w0 => ?_
  refine code_seq ?_
  refine code_region ?_
  refine op_v (v_assign rfl) rfl ?_
  refine ops_nil ?_
  refine post_next ?_
  refine code_seq ?_
  refine code_region ?_
  refine op_v (v_assign rfl) rfl ?_
  refine ops_nil ?_
  refine post_next ?_
  refine code_seq ?_
  refine code_seq ?_
  refine code_region ?_
  refine op_v (v_move rfl) rfl ?_
  refine op_v (v_len Try.underlying26 rfl) rfl ?_
  refine op_v (v_move rfl) rfl ?_
  refine ops_nil ?_
  refine post_next ?_
  refine code_block ?_
  refine CodeJ.view (View.nilRow 47 2) ?_
  refine code_loop (fun m σ' I' δ' => ∃ (k : Nat) (A : Option Addr) (c' : Nat) (ys : List Value), m = c.length - k ∧ k ≤ c.length ∧ σ' = [(3, .slice A (2 * k) c'), (6, .slice ad c.length c0), (7, .int .i64 c.length), (8, .int .i64 k)] ∧ I = I' ∧ δ' = [.row (.slice A (2 * k) c') 47 2 (2 * k) ys] ∧ RowE TermE I ys (sidesL (c.take k))) c.length [(3, .slice none (2 * 0) 0), (6, .slice ad c.length c0), (7, .int .i64 c.length), (8, .int .i64 (0 : Nat))] ⟨0, none, 0, [], rfl, Nat.zero_le _, rfl, rfl, rfl, rfl⟩ ⟨rfl, rfl, rfl, rfl, trivial⟩ ?_
  rintro m _ _ _ ⟨k, A, c', ys, rfl, hk, rfl, rfl, rfl, hys⟩
  refine code_seq ?_
  refine code_region ?_
  first | refine op_v (v_cmptA rfl rfl rfl) rfl ?_ | refine op_v (v_cmpfA rfl rfl rfl) rfl ?_ | refine op_v (v_cmp rfl rfl rfl) rfl ?_
  refine ops_nil ?_
  refine post_next ?_
  refine code_seq ?_
  refine code_cond rfl (fun hc0 => ?_) (fun hc0 => ?_)
  · have hlt : k < c.length := by simpa using hc0
    obtain ⟨vs, ⟨la, lc, ra, rc, rfl, hl, hr⟩, hat⟩ := hrow.cellsAt hcells hlt
    have hs1 := hat.isSome
    refine code_skip ?_
    refine post_next ?_
    refine code_seq ?_
    refine code_block ?_
    refine code_seq ?_
    refine code_region ?_
    first | refine op_v (v_indexA Try.underlying26 sz49 rfl rfl) rfl ?_ | refine op_v (v_indexIA Try.underlying26 sz49 rfl rfl) rfl ?_
    first | refine op_v (v_loadI0 ty49 (hat) rfl rfl rfl) rfl ?_ | refine op_v (v_loadI ty49 (hat) rfl rfl rfl) rfl ?_
    refine o_alloc z49 rfl rfl (fun b5 => ?_)
    refine o_store ty49 rfl rfl rfl rfl rfl (by repeat (first | exact Swap.here | apply Swap.there)) rfl ?_
    refine ops_nil ?_
    refine post_next ?_
    refine code_region ?_
    refine op_v (v_move rfl) rfl ?_
    first | refine op_v (v_fieldB 1 Try.underlying49 rfl rfl fz47 rfl) rfl ?_ | refine op_v (v_fieldI 1 Try.underlying49 rfl rfl fz47 rfl (by assumption)) rfl ?_ | refine op_v (v_field Try.underlying49 rfl fz47 rfl rfl) rfl ?_
    refine op_v (v_loadA ty47 rfl rfl) rfl ?_
    first | refine op_v (v_fieldB 3 Try.underlying49 rfl rfl fz47 rfl) rfl ?_ | refine op_v (v_fieldI 3 Try.underlying49 rfl rfl fz47 rfl (by assumption)) rfl ?_ | refine op_v (v_field Try.underlying49 rfl fz47 rfl rfl) rfl ?_
    refine op_v (v_loadA ty47 rfl rfl) rfl ?_
    refine o_buildSlice (xs := [(Go.Operand.tmp 14), (Go.Operand.tmp 16)]) Try.underlying45 bs47 rfl rfl rfl rfl rfl (fun b17 => ?_)
    refine o_append Try.underlying45 bs47 rfl rfl rfl (fun v' => by repeat (first | exact Swap.here | apply Swap.there)) (Src.ofRow (by repeat (first | exact Has.here | apply Has.there)) rfl) (by first | rfl | omega | simp) (by simp [cat, cellsL, Value.oneCell']) (by omega) (by omega) (fun a18 c18 => ?_)
    refine op_v (v_assign rfl) rfl ?_
    refine ops_nil ?_
    refine post_out ?_
    refine post_next ?_
    refine code_region ?_
    first | refine op_v (v_addb rfl rfl rfl (by omega)) rfl ?_ | refine op_v (v_add rfl rfl) rfl ?_
    refine op_v (v_move rfl) rfl ?_
    refine ops_nil ?_
    refine PostJ.view (View.drop Del.here) ?_
    refine PostJ.view (View.drop Del.here) ?_
    refine post_again (c.length - (k + 1)) [(3, .slice a18 (2 * (k + 1)) c18), (6, .slice ad c.length c0), (7, .int .i64 c.length), (8, .int .i64 (k + 1 : Nat))] (by omega) ⟨k + 1, a18, c18, ys ++ [.int .i64 c[k].l.head, .slice la c[k].l.args.length lc, .int .i64 c[k].r.head, .slice ra c[k].r.args.length rc], rfl, hlt, rfl, rfl, ?_, ?_⟩ ⟨rfl, rfl, rfl, rfl, trivial⟩
    · simp [cat, cellsL]; omega
    · rw [sidesL_take c k hlt]
      exact hys.app ⟨[.int .i64 c[k].l.head, .slice la c[k].l.args.length lc], [.int .i64 c[k].r.head, .slice ra c[k].r.args.length rc], rfl, ⟨la, lc, rfl, hl⟩, RowE.single ⟨ra, rc, rfl, hr⟩⟩
  · have hge : k = c.length := by simp at hc0; omega
    subst hge
    rw [List.take_length] at hys
    refine code_exit ?_
    refine post_exit_then ?_
    refine post_exit_then ?_
    refine post_exit ?_
    refine post_next ?_
    refine code_seq ?_
    refine code_region ?_
    refine OpsJ.freezeRow Del.here ?_
    rintro I20 a20 c20 hI20 hq hc20 hl20 hcells20
    cases hq
    refine op_v (v_move rfl) rfl ?_
    refine op_v (v_assign rfl) rfl ?_
    refine ops_nil ?_
    refine post_next ?_
    refine code_ret ?_
    refine post_ret (rs := [.tmp 2]) rfl (List.Perm.refl _) (.cons (.tmp rfl) .nil) (List.nil_sublist _) ?_
    refine ⟨?_, rfl⟩
    have h2 := sidesL_len c
    have := RowE.repS (c := c') (hys.mono hI20) hcells20 (by omega) (by omega)
    rw [h2] at this; exact this
theorem Tidy1_does {I : Imm} {b : Nat} {l m : Li} {ul um : List Value} (hl : LitE.R I l ul) (hm : LitE.R I m um) (h1 : l.l.size ≤ 1000000000) (h2 : l.r.size ≤ 1000000000) (h3 : m.l.size ≤ 1000000000) (h4 : m.r.size ≤ 1000000000) :
    Does Try.prog 75 [.agg um.toArray, .pointer (some ⟨b, 0, none⟩)] I [.box b 49 ul] (fun v _ δ' => v = .bool (sameL l m) ∧ δ' = [.box b 49 ul]) := by
  have hl0 := lit_row hl
  have hm0 := lit_row hm
  obtain ⟨la, lc, ra, rc, rfl, _, _⟩ := hl
  obtain ⟨ma, mc, na, nc, rfl, _, _⟩ := hm
  refine Does.intro Try.func75 rfl Try.ntmps75 rfl fun w0 => ?_
  refine code_seq ?_
  refine code_region ?_
  refine o_box rfl rfl rfl (fun b2 => ?_)
  refine op_v (v_assign rfl) rfl ?_
  refine ops_nil ?_
  refine post_next ?_
  refine code_seq ?_
  refine code_region ?_
  refine op_v (v_loadA ty49 rfl rfl) rfl ?_
  refine op_v (v_loadA ty49 rfl rfl) rfl ?_
  refine op_call pl32 rfl rfl ((LSame_does hl0 hm0 h1 h2 h3 h4)) Parts.none ?_
  rintro v6 I6 _ hI6 ⟨rfl, rfl⟩
  refine op_v (v_assign rfl) rfl ?_
  refine ops_nil ?_
  refine post_next ?_
  refine code_ret ?_
  refine post_ret (rs := [.tmp 3]) rfl (List.Perm.refl _) (.cons (.tmp rfl) .nil) (List.sublist_cons_self _ _) ?_
  exact ⟨rfl, rfl⟩
theorem Taut1_does {I : Imm} {b : Nat} {l m : Li} {ul um : List Value} (hl : LitE.R I l ul) (hm : LitE.R I m um) (h1 : l.l.size ≤ 1000000000) (h2 : l.r.size ≤ 1000000000) (h3 : m.l.size ≤ 1000000000) (h4 : m.r.size ≤ 1000000000) :
    Does Try.prog 118 [.agg um.toArray, .pointer (some ⟨b, 0, none⟩)] I [.box b 49 ul] (fun v _ δ' => v = .bool (oppL l m) ∧ δ' = [.box b 49 ul]) := by
  have hl0 := lit_row hl
  have hm0 := lit_row hm
  obtain ⟨la, lc, ra, rc, rfl, _, _⟩ := hl
  obtain ⟨ma, mc, na, nc, rfl, _, _⟩ := hm
  refine Does.intro Try.func118 rfl Try.ntmps118 rfl fun w0 => ?_
  refine code_seq ?_
  refine code_region ?_
  refine o_box rfl rfl rfl (fun b2 => ?_)
  refine op_v (v_assign rfl) rfl ?_
  refine ops_nil ?_
  refine post_next ?_
  refine code_seq ?_
  refine code_region ?_
  refine op_v (v_loadA ty49 rfl rfl) rfl ?_
  refine op_v (v_loadA ty49 rfl rfl) rfl ?_
  refine op_call pl119 rfl rfl ((LOpp_does hl0 hm0 h1 h2 h3 h4)) Parts.none ?_
  rintro v6 I6 _ hI6 ⟨rfl, rfl⟩
  refine op_v (v_assign rfl) rfl ?_
  refine ops_nil ?_
  refine post_next ?_
  refine code_ret ?_
  refine post_ret (rs := [.tmp 3]) rfl (List.Perm.refl _) (.cons (.tmp rfl) .nil) (List.sublist_cons_self _ _) ?_
  exact ⟨rfl, rfl⟩
theorem CTidy_does {I : Imm} {v : Value} {c : List Li} (hv : RepC I v c) (hs : SmC c) :
    Does Try.prog 29 [v] I [] (fun v I' δ' => RepC I' v (tidyL c) ∧ δ' = []) := by
  obtain ⟨ad, c0, xs, rfl, hc, hb, hcells, hrow⟩ := hv
  refine Does.intro Try.func29 rfl Try.ntmps29 rfl fun w0 => ?_
  refine code_seq ?_
  refine code_region ?_
  refine op_v (v_assign rfl) rfl ?_
  refine ops_nil ?_
  refine post_next ?_
  refine code_seq ?_
  refine code_region ?_
  refine op_v (v_assign rfl) rfl ?_
  refine ops_nil ?_
  refine post_next ?_
  refine code_seq ?_
  refine code_seq ?_
  refine code_region ?_
  refine op_v (v_move rfl) rfl ?_
  refine op_v (v_len Try.underlying26 rfl) rfl ?_
  refine op_v (v_move rfl) rfl ?_
  refine ops_nil ?_
  refine post_next ?_
  refine code_block ?_
  refine CodeJ.view (View.nilRow 49 5) ?_
  refine code_loop (fun m σ' I' δ' => ∃ (k : Nat) (A : Option Addr) (c' : Nat) (ys : List Value), m = c.length - k ∧ k ≤ c.length ∧ σ' = [(3, .slice A (tidyGo [] (c.take k)).length c'), (7, .slice ad c.length c0), (8, .int .i64 c.length), (9, .int .i64 k)] ∧ I.le I' ∧ δ' = [cRow A c' (tidyGo [] (c.take k)).length ys] ∧ RowE LitE I' ys (tidyGo [] (c.take k))) c.length [(3, .slice none 0 0), (7, .slice ad c.length c0), (8, .int .i64 c.length), (9, .int .i64 (0 : Nat))] ⟨0, none, 0, [], rfl, Nat.zero_le _, rfl, Imm.le_refl _, rfl, rfl⟩ ⟨rfl, rfl, rfl, rfl, trivial⟩ ?_
  rintro m _ I0 _ ⟨k, A, c', ys, rfl, hk, rfl, hI0, rfl, hys⟩
  have htl := tidyGo_len [] (c.take k)
  rw [List.length_take, List.length_nil] at htl
  refine code_seq ?_
  refine code_region ?_
  first | refine op_v (v_cmptA rfl rfl rfl) rfl ?_ | refine op_v (v_cmpfA rfl rfl rfl) rfl ?_ | refine op_v (v_cmp rfl rfl rfl) rfl ?_
  refine ops_nil ?_
  refine post_next ?_
  refine code_seq ?_
  refine code_cond rfl (fun hc0 => ?_) (fun hc0 => ?_)
  · have hlt : k < c.length := by simpa using hc0
    obtain ⟨vs, hR, hat⟩ := hrow.cellsAt hcells hlt
    obtain ⟨la, lc, ra, rc, rfl, hl, hr⟩ := hR
    have hs1 := hat.isSome
    have hsk := hs.at hlt
    have hmem : ∀ x ∈ tidyGo [] (c.take k), x ∈ c := fun x hx => by rcases tidyGo_mem _ _ x hx with h | h; cases h; exact List.mem_of_mem_take h
    have hsu := tidyGo_succ c k hlt
    refine code_skip ?_
    refine post_next ?_
    refine code_seq ?_
    refine code_block ?_
    refine code_seq ?_
    refine code_region ?_
    first | refine op_v (v_indexA Try.underlying26 sz49 rfl rfl) rfl ?_ | refine op_v (v_indexIA Try.underlying26 sz49 rfl rfl) rfl ?_
    first | refine op_v (v_loadI0 ty49 (hat.mono hI0) rfl rfl rfl) rfl ?_ | refine op_v (v_loadI ty49 (hat.mono hI0) rfl rfl rfl) rfl ?_
    refine o_alloc z49 rfl rfl (fun b5 => ?_)
    refine o_store ty49 rfl rfl rfl rfl rfl (by repeat (first | exact Swap.here | apply Swap.there)) rfl ?_
    refine ops_nil ?_
    refine post_next ?_
    refine code_seq ?_
    refine code_region ?_
    refine op_v (v_move rfl) rfl ?_
    refine op_v (v_makeFunc rfl rfl) rfl ?_
    refine op_call pl74 rfl rfl ((ContR_doesC (c := tidyGo [] (c.take k)) (p := fun m => sameL c[k] m) hys (by omega) (fun J x u hJ hu hx => FDoes.ofFunc (args := [_]) (caps := [_]) pl75 (Tidy1_does (b := b5) (LitE.mono (Imm.le_trans hI0 hJ) ⟨la, lc, ra, rc, rfl, hl, hr⟩) hu hsk.1 hsk.2 (hs x (hmem x hx)).1 (hs x (hmem x hx)).2)))) (List.Perm.swap _ _ _) ?_
    rintro v15 I15 _ hI15 ⟨rfl, rfl⟩
    rw [List.append_nil]
    refine op_v (v_assign rfl) rfl ?_
    refine ops_nil ?_
    refine post_next ?_
    refine code_seq ?_
    refine code_region ?_
    refine op_v (v_move rfl) rfl ?_
    by_cases ht : ((tidyGo [] (c.take k)).any fun m => sameL c[k] m) = true
    · rw [ht]
      have hgone : goneL (tidyGo [] (c.take k)) c[k] = true := by unfold goneL; rw [ht]; rfl
      rw [if_pos hgone] at hsu
      refine op_v (v_not rfl) rfl ?_
      refine op_v (v_move rfl) rfl ?_
      first
        | (refine op_want rfl rfl ?_
           first | refine op_v (v_fieldB 0 Try.underlying49 rfl rfl fz4 rfl) rfl ?_ | refine op_v (v_fieldI 0 Try.underlying49 rfl rfl fz4 rfl (by assumption)) rfl ?_ | refine op_v (v_field Try.underlying49 rfl fz4 rfl rfl) rfl ?_)
        | (refine op_skip rfl rfl (by simp [undef]) rfl ?_)
      first
        | (refine op_want rfl rfl ?_
           refine op_v (v_loadA ty4 rfl rfl) rfl ?_)
        | (refine op_skip rfl rfl (by simp [undef]) rfl ?_)
      first
        | (refine op_want rfl rfl ?_
           refine op_v (v_move rfl) rfl ?_)
        | (refine op_skip rfl rfl (by simp [undef]) rfl ?_)
      first
        | (refine op_want rfl rfl ?_
           refine op_v (v_loadA ty49 rfl rfl) rfl ?_)
        | (refine op_skip rfl rfl (by simp [undef]) rfl ?_)
      first
        | (refine op_want rfl rfl ?_
           refine op_call pl31 rfl rfl ((LTrivial_does (x := c[k]) ⟨la, lc, ra, rc, rfl, hl.mono Imm.leA, hr.mono Imm.leA⟩ hsk.1 hsk.2)) Parts.none ?_
           rintro v23 I23 _ hI23 ⟨rfl, rfl⟩)
        | (refine op_skip rfl rfl (by simp [undef]) rfl ?_)
      first
        | (refine op_want rfl rfl ?_
           first | refine op_v (v_pickt rfl rfl) rfl ?_ | refine op_v (v_pickf rfl rfl) rfl ?_ | refine op_v (v_pickb rfl rfl rfl) rfl ?_)
        | (refine op_skip rfl rfl (by simp [undef]) rfl ?_)
      first
        | (refine op_want rfl rfl ?_
           refine op_v (v_not rfl) rfl ?_)
        | (refine op_skip rfl rfl (by simp [undef]) rfl ?_)
      first | refine op_v (v_pickt rfl rfl) rfl ?_ | refine op_v (v_pickf rfl rfl) rfl ?_ | refine op_v (v_pickb rfl rfl rfl) rfl ?_
      refine ops_nil ?_
      refine post_next ?_
      refine code_cond_f rfl ?_
      refine code_skip ?_
      refine post_out ?_
      refine post_next ?_
      refine code_region ?_
      first | refine op_v (v_addb rfl rfl rfl (by omega)) rfl ?_ | refine op_v (v_add rfl rfl) rfl ?_
      refine op_v (v_move rfl) rfl ?_
      refine ops_nil ?_
      refine PostJ.view (View.drop (Del.there Del.here)) ?_
      refine post_again (c.length - (k + 1)) [(3, .slice A (tidyGo [] (c.take k)).length c'), (7, .slice ad c.length c0), (8, .int .i64 c.length), (9, .int .i64 (k + 1 : Nat))] (by omega) ⟨k + 1, A, c', ys, rfl, hlt, by rw [hsu], Imm.leA, by rw [hsu], by rw [hsu]; exact hys.mono Imm.leA⟩ ⟨rfl, rfl, rfl, rfl, trivial⟩
    · have ht' : ((tidyGo [] (c.take k)).any fun m => sameL c[k] m) = false := by simpa using ht
      rw [ht']
      refine op_v (v_not rfl) rfl ?_
      refine op_v (v_move rfl) rfl ?_
      first
        | (refine op_want rfl rfl ?_
           first | refine op_v (v_fieldB 0 Try.underlying49 rfl rfl fz4 rfl) rfl ?_ | refine op_v (v_fieldI 0 Try.underlying49 rfl rfl fz4 rfl (by assumption)) rfl ?_ | refine op_v (v_field Try.underlying49 rfl fz4 rfl rfl) rfl ?_)
        | (refine op_skip rfl rfl (by simp [undef]) rfl ?_)
      by_cases hn : c[k].neg = true
      · first
          | (refine op_want rfl rfl ?_
             refine op_v (v_loadA (cs := liC c[k] la lc ra rc) (off := 0) (agg := false) (n := 1) (v := .bool true) ty4 rfl (by show some (Value.bool c[k].neg) = _; rw [hn])) rfl ?_)
          | (refine op_skip rfl rfl (by simp [undef]) rfl ?_)
        first
          | (refine op_want rfl rfl ?_
             refine op_v (v_move rfl) rfl ?_)
          | (refine op_skip rfl rfl (by simp [undef]) rfl ?_)
        first
          | (refine op_want rfl rfl ?_
             refine op_v (v_loadA ty49 rfl rfl) rfl ?_)
          | (refine op_skip rfl rfl (by simp [undef]) rfl ?_)
        first
          | (refine op_want rfl rfl ?_
             refine op_call pl31 rfl rfl ((LTrivial_does (x := c[k]) ⟨la, lc, ra, rc, rfl, hl.mono Imm.leA, hr.mono Imm.leA⟩ hsk.1 hsk.2)) Parts.none ?_
             rintro v23 I23 _ hI23 ⟨rfl, rfl⟩)
          | (refine op_skip rfl rfl (by simp [undef]) rfl ?_)
        first
          | (refine op_want rfl rfl ?_
             first | refine op_v (v_pickt rfl rfl) rfl ?_ | refine op_v (v_pickf rfl rfl) rfl ?_ | refine op_v (v_pickb rfl rfl rfl) rfl ?_)
          | (refine op_skip rfl rfl (by simp [undef]) rfl ?_)
        first
          | (refine op_want rfl rfl ?_
             refine op_v (v_not rfl) rfl ?_)
          | (refine op_skip rfl rfl (by simp [undef]) rfl ?_)
        first | refine op_v (v_pickt rfl rfl) rfl ?_ | refine op_v (v_pickf rfl rfl) rfl ?_ | refine op_v (v_pickb rfl rfl rfl) rfl ?_
        refine ops_nil ?_
        refine post_next ?_
        refine code_cond rfl (fun hc1 => ?_) (fun hc1 => ?_)
        · have hgone : goneL (tidyGo [] (c.take k)) c[k] = false := by unfold goneL trivL; rw [ht', hn]; simpa using hc1
          rw [if_neg (by rw [hgone]; simp)] at hsu
          refine code_region ?_
          refine op_v (v_move rfl) rfl ?_
          refine op_v (v_loadA ty49 rfl rfl) rfl ?_
          refine o_buildSlice (xs := [(Go.Operand.tmp 28)]) Try.underlying26 bs49 rfl rfl rfl rfl rfl (fun b29 => ?_)
          refine o_append Try.underlying26 bs49 rfl rfl rfl (fun v' => by repeat (first | exact Swap.here | apply Swap.there)) (Src.ofRow (by repeat (first | exact Has.here | apply Has.there)) rfl) (by first | rfl | omega | simp) (by simp [cat, cellsL, Value.oneCell']) (by omega) (by omega) (fun a30 c30 => ?_)
          refine op_v (v_assign rfl) rfl ?_
          refine ops_nil ?_
          refine post_out ?_
          refine post_next ?_
          refine code_region ?_
          first | refine op_v (v_addb rfl rfl rfl (by omega)) rfl ?_ | refine op_v (v_add rfl rfl) rfl ?_
          refine op_v (v_move rfl) rfl ?_
          refine ops_nil ?_
          refine PostJ.view (View.drop Del.here) ?_
          refine PostJ.view (View.drop (Del.there Del.here)) ?_
          refine post_again (c.length - (k + 1)) [(3, .slice a30 ((tidyGo [] (c.take k)).length + 1) c30), (7, .slice ad c.length c0), (8, .int .i64 c.length), (9, .int .i64 (k + 1 : Nat))] (by omega) ⟨k + 1, a30, c30, ys ++ liC c[k] la lc ra rc, rfl, hlt, by rw [hsu]; simp, Imm.leA, by rw [hsu]; simp [cat, cellsL], by rw [hsu]; exact (hys.mono Imm.leA).app (RowE.single ⟨la, lc, ra, rc, rfl, hl.mono Imm.leA, hr.mono Imm.leA⟩)⟩ ⟨rfl, rfl, rfl, rfl, trivial⟩
        · have hgone : goneL (tidyGo [] (c.take k)) c[k] = true := by unfold goneL trivL; rw [ht', hn]; simpa using hc1
          rw [if_pos hgone] at hsu
          refine code_skip ?_
          refine post_out ?_
          refine post_next ?_
          refine code_region ?_
          first | refine op_v (v_addb rfl rfl rfl (by omega)) rfl ?_ | refine op_v (v_add rfl rfl) rfl ?_
          refine op_v (v_move rfl) rfl ?_
          refine ops_nil ?_
          refine PostJ.view (View.drop (Del.there Del.here)) ?_
          refine post_again (c.length - (k + 1)) [(3, .slice A (tidyGo [] (c.take k)).length c'), (7, .slice ad c.length c0), (8, .int .i64 c.length), (9, .int .i64 (k + 1 : Nat))] (by omega) ⟨k + 1, A, c', ys, rfl, hlt, by rw [hsu], Imm.leA, by rw [hsu], by rw [hsu]; exact hys.mono Imm.leA⟩ ⟨rfl, rfl, rfl, rfl, trivial⟩
      · have hn' : c[k].neg = false := by simpa using hn
        have hgone : goneL (tidyGo [] (c.take k)) c[k] = false := by unfold goneL; rw [ht', hn']; rfl
        rw [if_neg (by rw [hgone]; simp)] at hsu
        first
          | (refine op_want rfl rfl ?_
             refine op_v (v_loadA (cs := liC c[k] la lc ra rc) (off := 0) (agg := false) (n := 1) (v := .bool false) ty4 rfl (by show some (Value.bool c[k].neg) = _; rw [hn'])) rfl ?_)
          | (refine op_skip rfl rfl (by simp [undef]) rfl ?_)
        first
          | (refine op_want rfl rfl ?_
             refine op_v (v_move rfl) rfl ?_)
          | (refine op_skip rfl rfl (by simp [undef]) rfl ?_)
        first
          | (refine op_want rfl rfl ?_
             refine op_v (v_loadA ty49 rfl rfl) rfl ?_)
          | (refine op_skip rfl rfl (by simp [undef]) rfl ?_)
        first
          | (refine op_want rfl rfl ?_
             refine op_call pl31 rfl rfl ((LTrivial_does (x := c[k]) ⟨la, lc, ra, rc, rfl, hl.mono Imm.leA, hr.mono Imm.leA⟩ hsk.1 hsk.2)) Parts.none ?_
             rintro v23 I23 _ hI23 ⟨rfl, rfl⟩)
          | (refine op_skip rfl rfl (by simp [undef]) rfl ?_)
        first
          | (refine op_want rfl rfl ?_
             first | refine op_v (v_pickt rfl rfl) rfl ?_ | refine op_v (v_pickf rfl rfl) rfl ?_ | refine op_v (v_pickb rfl rfl rfl) rfl ?_)
          | (refine op_skip rfl rfl (by simp [undef]) rfl ?_)
        first
          | (refine op_want rfl rfl ?_
             refine op_v (v_not rfl) rfl ?_)
          | (refine op_skip rfl rfl (by simp [undef]) rfl ?_)
        first | refine op_v (v_pickt rfl rfl) rfl ?_ | refine op_v (v_pickf rfl rfl) rfl ?_ | refine op_v (v_pickb rfl rfl rfl) rfl ?_
        refine ops_nil ?_
        refine post_next ?_
        refine code_cond_t rfl ?_
        refine code_region ?_
        refine op_v (v_move rfl) rfl ?_
        refine op_v (v_loadA ty49 rfl rfl) rfl ?_
        refine o_buildSlice (xs := [(Go.Operand.tmp 28)]) Try.underlying26 bs49 rfl rfl rfl rfl rfl (fun b29 => ?_)
        refine o_append Try.underlying26 bs49 rfl rfl rfl (fun v' => by repeat (first | exact Swap.here | apply Swap.there)) (Src.ofRow (by repeat (first | exact Has.here | apply Has.there)) rfl) (by first | rfl | omega | simp) (by simp [cat, cellsL, Value.oneCell']) (by omega) (by omega) (fun a30 c30 => ?_)
        refine op_v (v_assign rfl) rfl ?_
        refine ops_nil ?_
        refine post_out ?_
        refine post_next ?_
        refine code_region ?_
        first | refine op_v (v_addb rfl rfl rfl (by omega)) rfl ?_ | refine op_v (v_add rfl rfl) rfl ?_
        refine op_v (v_move rfl) rfl ?_
        refine ops_nil ?_
        refine PostJ.view (View.drop Del.here) ?_
        refine PostJ.view (View.drop (Del.there Del.here)) ?_
        refine post_again (c.length - (k + 1)) [(3, .slice a30 ((tidyGo [] (c.take k)).length + 1) c30), (7, .slice ad c.length c0), (8, .int .i64 c.length), (9, .int .i64 (k + 1 : Nat))] (by omega) ⟨k + 1, a30, c30, ys ++ liC c[k] la lc ra rc, rfl, hlt, by rw [hsu]; simp, Imm.leA, by rw [hsu]; simp [cat, cellsL], by rw [hsu]; exact (hys.mono Imm.leA).app (RowE.single ⟨la, lc, ra, rc, rfl, hl.mono Imm.leA, hr.mono Imm.leA⟩)⟩ ⟨rfl, rfl, rfl, rfl, trivial⟩
  · have hge : k = c.length := by simp at hc0; omega
    subst hge
    rw [List.take_length] at hys
    refine code_exit ?_
    refine post_exit_then ?_
    refine post_exit_then ?_
    refine post_exit ?_
    refine post_next ?_
    refine code_seq ?_
    refine code_region ?_
    refine OpsJ.freezeRow Del.here ?_
    rintro I32 a32 c32 hI32 hq hc32 hl32 hcells32
    cases hq
    rw [List.take_length] at htl hc32
    rw [List.take_length]
    refine op_v (v_move rfl) rfl ?_
    refine op_v (v_assign rfl) rfl ?_
    refine ops_nil ?_
    refine post_next ?_
    refine code_ret ?_
    refine post_ret (rs := [.tmp 2]) rfl (List.Perm.refl _) (.cons (.tmp rfl) .nil) (List.nil_sublist _) ?_
    exact ⟨⟨_, _, ys, rfl, hc32, by show (tidyGo [] c).length ≤ _; omega, hcells32, hys.mono hI32⟩, rfl⟩
def tautGo : List Li → List Li → Bool
  | _, [] => false
  | pre, x :: r => (pre.any (fun m => oppL x m) || (!x.neg && trivL x)) || tautGo (pre ++ [x]) r
def tautL (c : List Li) : Bool := tautGo [] c
theorem tautGo_at (c : List Li) (k : Nat) (h : k < c.length) : tautGo (c.take k) (c.drop k) = (((c.take k).any (fun m => oppL c[k] m) || (!c[k].neg && trivL c[k])) || tautGo (c.take (k + 1)) (c.drop (k + 1))) := by
  rw [List.drop_eq_getElem_cons h, List.take_succ_eq_append_getElem h]; rfl
theorem CTaut_does {I : Imm} {v : Value} {c : List Li} (hv : RepC I v c) (hs : SmC c) :
    Does Try.prog 81 [v] I [] (fun v I' δ' => v = .bool (tautL c) ∧ δ' = []) := by
  obtain ⟨ad, c0, xs, rfl, hc, hb, hcells, hrow⟩ := hv
  refine Does.intro Try.func81 rfl Try.ntmps81 rfl fun w0 => ?_
  refine code_seq ?_
  refine code_region ?_
  refine op_v (v_assign rfl) rfl ?_
  refine ops_nil ?_
  refine post_next ?_
  refine code_seq ?_
  refine code_seq ?_
  refine code_region ?_
  refine op_v (v_move rfl) rfl ?_
  refine op_v (v_len Try.underlying26 rfl) rfl ?_
  refine op_v (v_move rfl) rfl ?_
  refine ops_nil ?_
  refine post_next ?_
  refine code_block ?_
  refine code_loop (fun m σ' I' δ' => ∃ k : Nat, m = c.length - k ∧ k ≤ c.length ∧ σ' = [(0, .slice ad c.length c0), (6, .slice ad c.length c0), (7, .int .i64 c.length), (8, .int .i64 k)] ∧ I.le I' ∧ δ' = [] ∧ tautL c = tautGo (c.take k) (c.drop k)) c.length [(0, .slice ad c.length c0), (6, .slice ad c.length c0), (7, .int .i64 c.length), (8, .int .i64 (0 : Nat))] ⟨0, rfl, Nat.zero_le _, rfl, Imm.le_refl _, rfl, rfl⟩ ⟨rfl, rfl, rfl, rfl, trivial⟩ ?_
  rintro m _ I0 _ ⟨k, rfl, hk, rfl, hI0, rfl, hta⟩
  refine code_seq ?_
  refine code_region ?_
  first | refine op_v (v_cmptA rfl rfl rfl) rfl ?_ | refine op_v (v_cmpfA rfl rfl rfl) rfl ?_ | refine op_v (v_cmp rfl rfl rfl) rfl ?_
  refine ops_nil ?_
  refine post_next ?_
  refine code_seq ?_
  refine code_cond rfl (fun hc0 => ?_) (fun hc0 => ?_)
  · have hlt : k < c.length := by simpa using hc0
    obtain ⟨vs, ⟨la, lc, ra, rc, rfl, hl, hr⟩, hat⟩ := hrow.cellsAt hcells hlt
    have hs1 := hat.isSome
    have hsk := hs.at hlt
    have htk := RepE.takeR (k := k) (hc) hb (hcells.mono hI0) (hrow.mono hI0) (by omega)
    rw [tautGo_at c k hlt] at hta
    refine code_skip ?_
    refine post_next ?_
    refine code_seq ?_
    refine code_block ?_
    refine code_seq ?_
    refine code_region ?_
    refine op_v (v_move rfl) rfl ?_
    first | refine op_v (v_indexA Try.underlying26 sz49 rfl rfl) rfl ?_ | refine op_v (v_indexIA Try.underlying26 sz49 rfl rfl) rfl ?_
    first | refine op_v (v_loadI0 ty49 (hat.mono hI0) rfl rfl rfl) rfl ?_ | refine op_v (v_loadI ty49 (hat.mono hI0) rfl rfl rfl) rfl ?_
    refine o_alloc z49 rfl rfl (fun b4 => ?_)
    refine op_v (v_assign rfl) rfl ?_
    refine o_store ty49 rfl rfl rfl rfl rfl (by repeat (first | exact Swap.here | apply Swap.there)) rfl ?_
    refine ops_nil ?_
    refine post_next ?_
    refine code_seq ?_
    refine code_region ?_
    refine op_v (v_move rfl) rfl ?_
    refine op_v (v_move rfl) rfl ?_
    refine op_v (v_sliceTo Try.underlying26 sz49 rfl rfl (by omega)) rfl ?_
    refine op_v (v_makeFunc rfl rfl) rfl ?_
    refine op_call pl74 rfl rfl ((ContC_does (c := c.take k) (p := fun m => oppL c[k] m) htk (fun J x u hJ hu hx => FDoes.ofFunc (args := [_]) (caps := [_]) pl118 (Taut1_does (b := b4) (LitE.mono (Imm.le_trans hI0 hJ) ⟨la, lc, ra, rc, rfl, hl, hr⟩) hu hsk.1 hsk.2 (hs x (List.mem_of_mem_take hx)).1 (hs x (List.mem_of_mem_take hx)).2)))) Parts.all ?_
    rintro v17 I17 _ hI17 ⟨rfl, rfl⟩
    rw [List.append_nil]
    refine op_v (v_assign rfl) rfl ?_
    refine ops_nil ?_
    refine post_next ?_
    refine code_seq ?_
    refine code_region ?_
    refine op_v (v_move rfl) rfl ?_
    by_cases ht : ((c.take k).any fun m => oppL c[k] m) = true
    · rw [ht]
      rw [ht] at hta
      refine op_v (v_move rfl) rfl ?_
      first
        | (refine op_want rfl rfl ?_
           first | refine op_v (v_fieldB 0 Try.underlying49 rfl rfl fz4 rfl) rfl ?_ | refine op_v (v_fieldI 0 Try.underlying49 rfl rfl fz4 rfl (by assumption)) rfl ?_ | refine op_v (v_field Try.underlying49 rfl fz4 rfl rfl) rfl ?_)
        | (refine op_skip rfl rfl (by simp [undef]) rfl ?_)
      first
        | (refine op_want rfl rfl ?_
           refine op_v (v_loadA ty4 rfl rfl) rfl ?_)
        | (refine op_skip rfl rfl (by simp [undef]) rfl ?_)
      first
        | (refine op_want rfl rfl ?_
           refine op_v (v_not rfl) rfl ?_)
        | (refine op_skip rfl rfl (by simp [undef]) rfl ?_)
      first
        | (refine op_want rfl rfl ?_
           refine op_v (v_move rfl) rfl ?_)
        | (refine op_skip rfl rfl (by simp [undef]) rfl ?_)
      first
        | (refine op_want rfl rfl ?_
           refine op_v (v_loadA ty49 rfl rfl) rfl ?_)
        | (refine op_skip rfl rfl (by simp [undef]) rfl ?_)
      first
        | (refine op_want rfl rfl ?_
           refine op_call pl31 rfl rfl ((LTrivial_does (x := c[k]) ⟨la, lc, ra, rc, rfl, hl.mono Imm.leA, hr.mono Imm.leA⟩ hsk.1 hsk.2)) Parts.none ?_
           rintro v25 I25 _ hI25 ⟨rfl, rfl⟩)
        | (refine op_skip rfl rfl (by simp [undef]) rfl ?_)
      first
        | (refine op_want rfl rfl ?_
           first | refine op_v (v_pickt rfl rfl) rfl ?_ | refine op_v (v_pickf rfl rfl) rfl ?_ | refine op_v (v_pickb rfl rfl rfl) rfl ?_)
        | (refine op_skip rfl rfl (by simp [undef]) rfl ?_)
      first | refine op_v (v_pickt rfl rfl) rfl ?_ | refine op_v (v_pickf rfl rfl) rfl ?_ | refine op_v (v_pickb rfl rfl rfl) rfl ?_
      refine ops_nil ?_
      refine post_next ?_
      refine code_cond_t rfl ?_
      refine code_seq ?_
      refine code_region ?_
      refine op_v (v_assign rfl) rfl ?_
      refine ops_nil ?_
      refine post_next ?_
      refine code_ret ?_
      refine post_ret_block ?_
      refine post_ret_then ?_
      refine post_ret_then ?_
      refine post_ret_block ?_
      refine post_ret_then ?_
      refine post_ret (rs := [.tmp 2]) rfl (List.Perm.refl _) (.cons (.tmp rfl) .nil) (List.nil_sublist _) ?_
      exact ⟨by rw [hta]; rfl, rfl⟩
    · have ht' : ((c.take k).any fun m => oppL c[k] m) = false := by simpa using ht
      rw [ht']
      rw [ht'] at hta
      refine op_v (v_move rfl) rfl ?_
      first
        | (refine op_want rfl rfl ?_
           first | refine op_v (v_fieldB 0 Try.underlying49 rfl rfl fz4 rfl) rfl ?_ | refine op_v (v_fieldI 0 Try.underlying49 rfl rfl fz4 rfl (by assumption)) rfl ?_ | refine op_v (v_field Try.underlying49 rfl fz4 rfl rfl) rfl ?_)
        | (refine op_skip rfl rfl (by simp [undef]) rfl ?_)
      by_cases hn : c[k].neg = true
      · rw [hn] at hta
        first
          | (refine op_want rfl rfl ?_
             refine op_v (v_loadA (cs := liC c[k] la lc ra rc) (off := 0) (agg := false) (n := 1) (v := .bool true) ty4 rfl (by show some (Value.bool c[k].neg) = _; rw [hn])) rfl ?_)
          | (refine op_skip rfl rfl (by simp [undef]) rfl ?_)
        first
          | (refine op_want rfl rfl ?_
             refine op_v (v_not rfl) rfl ?_)
          | (refine op_skip rfl rfl (by simp [undef]) rfl ?_)
        first
          | (refine op_want rfl rfl ?_
             refine op_v (v_move rfl) rfl ?_)
          | (refine op_skip rfl rfl (by simp [undef]) rfl ?_)
        first
          | (refine op_want rfl rfl ?_
             refine op_v (v_loadA ty49 rfl rfl) rfl ?_)
          | (refine op_skip rfl rfl (by simp [undef]) rfl ?_)
        first
          | (refine op_want rfl rfl ?_
             refine op_call pl31 rfl rfl ((LTrivial_does (x := c[k]) ⟨la, lc, ra, rc, rfl, hl.mono Imm.leA, hr.mono Imm.leA⟩ hsk.1 hsk.2)) Parts.none ?_
             rintro v25 I25 _ hI25 ⟨rfl, rfl⟩)
          | (refine op_skip rfl rfl (by simp [undef]) rfl ?_)
        first
          | (refine op_want rfl rfl ?_
             first | refine op_v (v_pickt rfl rfl) rfl ?_ | refine op_v (v_pickf rfl rfl) rfl ?_ | refine op_v (v_pickb rfl rfl rfl) rfl ?_)
          | (refine op_skip rfl rfl (by simp [undef]) rfl ?_)
        first | refine op_v (v_pickt rfl rfl) rfl ?_ | refine op_v (v_pickf rfl rfl) rfl ?_ | refine op_v (v_pickb rfl rfl rfl) rfl ?_
        refine ops_nil ?_
        refine post_next ?_
        refine code_cond_f rfl ?_
        refine code_skip ?_
        refine post_out ?_
        refine post_next ?_
        refine code_region ?_
        first | refine op_v (v_addb rfl rfl rfl (by omega)) rfl ?_ | refine op_v (v_add rfl rfl) rfl ?_
        refine op_v (v_move rfl) rfl ?_
        refine ops_nil ?_
        refine PostJ.view (View.drop Del.here) ?_
        refine post_again (c.length - (k + 1)) [(0, .slice ad c.length c0), (6, .slice ad c.length c0), (7, .int .i64 c.length), (8, .int .i64 (k + 1 : Nat))] (by omega) ⟨k + 1, rfl, hlt, rfl, Imm.leA, rfl, by rw [hta]; rfl⟩ ⟨rfl, rfl, rfl, rfl, trivial⟩
      · have hn' : c[k].neg = false := by simpa using hn
        rw [hn'] at hta
        first
          | (refine op_want rfl rfl ?_
             refine op_v (v_loadA (cs := liC c[k] la lc ra rc) (off := 0) (agg := false) (n := 1) (v := .bool false) ty4 rfl (by show some (Value.bool c[k].neg) = _; rw [hn'])) rfl ?_)
          | (refine op_skip rfl rfl (by simp [undef]) rfl ?_)
        first
          | (refine op_want rfl rfl ?_
             refine op_v (v_not rfl) rfl ?_)
          | (refine op_skip rfl rfl (by simp [undef]) rfl ?_)
        first
          | (refine op_want rfl rfl ?_
             refine op_v (v_move rfl) rfl ?_)
          | (refine op_skip rfl rfl (by simp [undef]) rfl ?_)
        first
          | (refine op_want rfl rfl ?_
             refine op_v (v_loadA ty49 rfl rfl) rfl ?_)
          | (refine op_skip rfl rfl (by simp [undef]) rfl ?_)
        first
          | (refine op_want rfl rfl ?_
             refine op_call pl31 rfl rfl ((LTrivial_does (x := c[k]) ⟨la, lc, ra, rc, rfl, hl.mono Imm.leA, hr.mono Imm.leA⟩ hsk.1 hsk.2)) Parts.none ?_
             rintro v25 I25 _ hI25 ⟨rfl, rfl⟩)
          | (refine op_skip rfl rfl (by simp [undef]) rfl ?_)
        first
          | (refine op_want rfl rfl ?_
             first | refine op_v (v_pickt rfl rfl) rfl ?_ | refine op_v (v_pickf rfl rfl) rfl ?_ | refine op_v (v_pickb rfl rfl rfl) rfl ?_)
          | (refine op_skip rfl rfl (by simp [undef]) rfl ?_)
        first | refine op_v (v_pickt rfl rfl) rfl ?_ | refine op_v (v_pickf rfl rfl) rfl ?_ | refine op_v (v_pickb rfl rfl rfl) rfl ?_
        refine ops_nil ?_
        refine post_next ?_
        refine code_cond rfl (fun hc1 => ?_) (fun hc1 => ?_)
        · have hc1' : trivL c[k] = true := hc1
          rw [hc1'] at hta
          refine code_seq ?_
          refine code_region ?_
          refine op_v (v_assign rfl) rfl ?_
          refine ops_nil ?_
          refine post_next ?_
          refine code_ret ?_
          refine post_ret_block ?_
          refine post_ret_then ?_
          refine post_ret_then ?_
          refine post_ret_block ?_
          refine post_ret_then ?_
          refine post_ret (rs := [.tmp 2]) rfl (List.Perm.refl _) (.cons (.tmp rfl) .nil) (List.nil_sublist _) ?_
          exact ⟨by rw [hta]; rfl, rfl⟩
        · have hc1' : trivL c[k] = false := hc1
          rw [hc1'] at hta
          refine code_skip ?_
          refine post_out ?_
          refine post_next ?_
          refine code_region ?_
          first | refine op_v (v_addb rfl rfl rfl (by omega)) rfl ?_ | refine op_v (v_add rfl rfl) rfl ?_
          refine op_v (v_move rfl) rfl ?_
          refine ops_nil ?_
          refine PostJ.view (View.drop Del.here) ?_
          refine post_again (c.length - (k + 1)) [(0, .slice ad c.length c0), (6, .slice ad c.length c0), (7, .int .i64 c.length), (8, .int .i64 (k + 1 : Nat))] (by omega) ⟨k + 1, rfl, hlt, rfl, Imm.leA, rfl, by rw [hta]; rfl⟩ ⟨rfl, rfl, rfl, rfl, trivial⟩
  · have hge : k = c.length := by simp at hc0; omega
    subst hge
    rw [List.drop_length] at hta
    refine code_exit ?_
    refine post_exit_then ?_
    refine post_exit_then ?_
    refine post_exit ?_
    refine post_next ?_
    refine code_seq ?_
    refine code_region ?_
    refine op_v (v_assign rfl) rfl ?_
    refine ops_nil ?_
    refine post_next ?_
    refine code_ret ?_
    refine post_ret (rs := [.tmp 2]) rfl (List.Perm.refl _) (.cons (.tmp rfl) .nil) (List.nil_sublist _) ?_
    exact ⟨by rw [hta]; rfl, rfl⟩
def chkLs (gs : List Sy) : List Li → Int
  | [] => 0
  | x :: r => if litG gs x ≠ 0 then litG gs x else chkLs gs r
def chkC (gs : List Sy) (c : List Li) : Int := if chkG gs ≠ 0 then chkG gs else if 32 < c.length then 2 else chkLs gs c
theorem chkLs_ok {gs : List Sy} : ∀ {c : List Li}, chkLs gs c = 0 ↔ ∀ x ∈ c, litG gs x = 0
  | [] => by simp [chkLs]
  | x :: r => by
    have ih := chkLs_ok (gs := gs) (c := r)
    simp only [chkLs]
    by_cases h : litG gs x ≠ 0
    · rw [if_pos h]; exact ⟨fun q => absurd q h, fun q => absurd (q x (List.mem_cons_self ..)) h⟩
    · rw [if_neg h, ih]
      exact ⟨fun q y hy => by rcases List.mem_cons.1 hy with rfl | hy; exact Classical.not_not.1 h; exact q y hy, fun q y hy => q y (List.mem_cons_of_mem _ hy)⟩
theorem CCheck_does {I : Imm} {vg v : Value} {gs : List Sy} {c : List Li} (hg : RepG I vg gs) (hv : RepC I v c) (hs : SmC c) :
    Does Try.prog 46 [vg, v] I [] (fun v I' δ' => v = .int .i64 (chkC gs c) ∧ δ' = []) := by
  obtain ⟨ad, c0, xs, rfl, hc, hb, hcells, hrow⟩ := hv
  refine Does.intro Try.func46 rfl Try.ntmps46 rfl fun w0 => ?_
  refine code_seq ?_
  refine code_region ?_
  refine op_v (v_assign rfl) rfl ?_
  refine ops_nil ?_
  refine post_next ?_
  refine code_seq ?_
  refine code_seq ?_
  refine code_region ?_
  refine op_v (v_move rfl) rfl ?_
  refine op_call pl93 rfl rfl ((GCheck_does hg)) Parts.none ?_
  rintro v10 I10 _ hI10 ⟨rfl, rfl⟩
  refine op_v (v_assign rfl) rfl ?_
  refine ops_nil ?_
  refine post_next ?_
  refine code_seq ?_
  refine code_region ?_
  refine op_v (v_move rfl) rfl ?_
  by_cases h12 : chkG gs ≠ 0
  · first | refine op_v (v_cmptA rfl rfl rfl) rfl ?_ | refine op_v (v_cmpfA rfl rfl rfl) rfl ?_ | refine op_v (v_cmp rfl rfl rfl) rfl ?_
    refine ops_nil ?_
    refine post_next ?_
    refine code_cond_t rfl ?_
    refine code_seq ?_
    refine code_region ?_
    refine op_v (v_move rfl) rfl ?_
    refine op_v (v_assign rfl) rfl ?_
    refine ops_nil ?_
    refine post_next ?_
    refine code_ret ?_
    refine post_ret_then ?_
    refine post_ret (rs := [.tmp 4]) rfl (List.Perm.refl _) (.cons (.tmp rfl) .nil) (List.nil_sublist _) ?_
    exact ⟨by rw [show chkC gs c = chkG gs from if_pos h12]; rfl, rfl⟩
  · first | refine op_v (v_cmptA rfl rfl rfl) rfl ?_ | refine op_v (v_cmpfA rfl rfl rfl) rfl ?_ | refine op_v (v_cmp rfl rfl rfl) rfl ?_
    refine ops_nil ?_
    refine post_next ?_
    refine code_cond_f rfl ?_
    refine code_skip ?_
    refine post_next ?_
    refine code_seq ?_
    refine code_seq ?_
    refine code_region ?_
    refine op_v (v_move rfl) rfl ?_
    refine op_v (v_len Try.underlying26 rfl) rfl ?_
    by_cases h16 : 32 < c.length
    · first | refine op_v (v_cmptA rfl rfl rfl) rfl ?_ | refine op_v (v_cmpfA rfl rfl rfl) rfl ?_ | refine op_v (v_cmp rfl rfl rfl) rfl ?_
      refine ops_nil ?_
      refine post_next ?_
      refine code_cond_t rfl ?_
      refine code_seq ?_
      refine code_region ?_
      refine op_v (v_assign rfl) rfl ?_
      refine ops_nil ?_
      refine post_next ?_
      refine code_ret ?_
      refine post_ret_then ?_
      refine post_ret (rs := [.tmp 4]) rfl (List.Perm.refl _) (.cons (.tmp rfl) .nil) (List.nil_sublist _) ?_
      exact ⟨by unfold chkC; rw [if_neg h12, if_pos h16]; rfl, rfl⟩
    · have hck : chkC gs c = chkLs gs c := by unfold chkC; rw [if_neg h12, if_neg h16]
      first | refine op_v (v_cmptA rfl rfl rfl) rfl ?_ | refine op_v (v_cmpfA rfl rfl rfl) rfl ?_ | refine op_v (v_cmp rfl rfl rfl) rfl ?_
      refine ops_nil ?_
      refine post_next ?_
      refine code_cond_f rfl ?_
      refine code_skip ?_
      refine post_next ?_
      refine code_seq ?_
      refine code_seq ?_
      refine code_region ?_
      refine op_v (v_move rfl) rfl ?_
      refine op_v (v_len Try.underlying26 rfl) rfl ?_
      refine op_v (v_move rfl) rfl ?_
      refine ops_nil ?_
      refine post_next ?_
      refine code_block ?_
      refine code_loop (fun m σ' I' δ' => ∃ k : Nat, m = c.length - k ∧ k ≤ c.length ∧ σ' = [(0, vg), (17, .slice ad c.length c0), (18, .int .i64 c.length), (19, .int .i64 k)] ∧ I.le I' ∧ δ' = [] ∧ chkLs gs c = chkLs gs (c.drop k)) c.length [(0, vg), (17, .slice ad c.length c0), (18, .int .i64 c.length), (19, .int .i64 (0 : Nat))] ⟨0, rfl, Nat.zero_le _, rfl, Imm.leA, rfl, rfl⟩ ⟨rfl, rfl, rfl, rfl, trivial⟩ ?_
      rintro m _ I0 _ ⟨k, rfl, hk, rfl, hI0, rfl, hta⟩
      refine code_seq ?_
      refine code_region ?_
      first | refine op_v (v_cmptA rfl rfl rfl) rfl ?_ | refine op_v (v_cmpfA rfl rfl rfl) rfl ?_ | refine op_v (v_cmp rfl rfl rfl) rfl ?_
      refine ops_nil ?_
      refine post_next ?_
      refine code_seq ?_
      refine code_cond rfl (fun hc2 => ?_) (fun hc2 => ?_)
      · have hlt : k < c.length := by simpa using hc2
        obtain ⟨vs, ⟨la, lc, ra, rc, rfl, hl, hr⟩, hat⟩ := hrow.cellsAt hcells hlt
        have hs1 := hat.isSome
        have hsk := hs.at hlt
        rw [List.drop_eq_getElem_cons hlt] at hta
        refine code_skip ?_
        refine post_next ?_
        refine code_seq ?_
        refine code_block ?_
        refine code_seq ?_
        refine code_region ?_
        first | refine op_v (v_indexA Try.underlying26 sz49 rfl rfl) rfl ?_ | refine op_v (v_indexIA Try.underlying26 sz49 rfl rfl) rfl ?_
        first | refine op_v (v_loadI0 ty49 (hat.mono hI0) rfl rfl rfl) rfl ?_ | refine op_v (v_loadI ty49 (hat.mono hI0) rfl rfl rfl) rfl ?_
        refine o_alloc z49 rfl rfl (fun b7 => ?_)
        refine o_store ty49 rfl rfl rfl rfl rfl (by repeat (first | exact Swap.here | apply Swap.there)) rfl ?_
        refine ops_nil ?_
        refine post_next ?_
        refine code_seq ?_
        refine code_region ?_
        refine op_v (v_move rfl) rfl ?_
        refine op_v (v_loadA ty49 rfl rfl) rfl ?_
        refine op_call pl94 rfl rfl ((LCheck_does (x := c[k]) (hg.mono hI0) ⟨la, lc, ra, rc, rfl, hl.mono hI0, hr.mono hI0⟩ hsk.1 hsk.2)) Parts.none ?_
        rintro v25 I25 _ hI25 ⟨rfl, rfl⟩
        refine op_v (v_assign rfl) rfl ?_
        refine ops_nil ?_
        refine post_next ?_
        refine code_seq ?_
        refine code_region ?_
        refine op_v (v_move rfl) rfl ?_
        by_cases h27 : litG gs c[k] ≠ 0
        · first | refine op_v (v_cmptA rfl rfl rfl) rfl ?_ | refine op_v (v_cmpfA rfl rfl rfl) rfl ?_ | refine op_v (v_cmp rfl rfl rfl) rfl ?_
          refine ops_nil ?_
          refine post_next ?_
          refine code_cond_t rfl ?_
          refine code_seq ?_
          refine code_region ?_
          refine op_v (v_move rfl) rfl ?_
          refine op_v (v_assign rfl) rfl ?_
          refine ops_nil ?_
          refine post_next ?_
          refine code_ret ?_
          refine post_ret_block ?_
          refine post_ret_then ?_
          refine post_ret_then ?_
          refine post_ret_block ?_
          refine post_ret_then ?_
          refine post_ret (rs := [.tmp 4]) rfl (List.Perm.refl _) (.cons (.tmp rfl) .nil) (List.nil_sublist _) ?_
          exact ⟨by rw [hck, hta, chkLs, if_pos h27]; rfl, rfl⟩
        · first | refine op_v (v_cmptA rfl rfl rfl) rfl ?_ | refine op_v (v_cmpfA rfl rfl rfl) rfl ?_ | refine op_v (v_cmp rfl rfl rfl) rfl ?_
          refine ops_nil ?_
          refine post_next ?_
          refine code_cond_f rfl ?_
          refine code_skip ?_
          refine post_out ?_
          refine post_next ?_
          refine code_region ?_
          first | refine op_v (v_addb rfl rfl rfl (by omega)) rfl ?_ | refine op_v (v_add rfl rfl) rfl ?_
          refine op_v (v_move rfl) rfl ?_
          refine ops_nil ?_
          refine PostJ.view (View.drop Del.here) ?_
          refine post_again (c.length - (k + 1)) [(0, vg), (17, .slice ad c.length c0), (18, .int .i64 c.length), (19, .int .i64 (k + 1 : Nat))] (by omega) ⟨k + 1, rfl, hlt, rfl, Imm.leA, rfl, by rw [hta, chkLs, if_neg h27]⟩ ⟨rfl, rfl, rfl, rfl, trivial⟩
      · have hge : k = c.length := by simp at hc2; omega
        subst hge
        rw [List.drop_length] at hta
        refine code_exit ?_
        refine post_exit_then ?_
        refine post_exit_then ?_
        refine post_exit ?_
        refine post_next ?_
        refine code_seq ?_
        refine code_region ?_
        refine op_v (v_assign rfl) rfl ?_
        refine ops_nil ?_
        refine post_next ?_
        refine code_ret ?_
        refine post_ret (rs := [.tmp 4]) rfl (List.Perm.refl _) (.cons (.tmp rfl) .nil) (List.nil_sublist _) ?_
        exact ⟨by rw [hck, hta]; rfl, rfl⟩
end Go.Proofs.Ytdbadicpbmndbaa
/- Variables as they come: plainly, and walks: the renamer, rows and clauses of other variables, a clause's variables. -/
set_option linter.unusedVariables false
set_option linter.unusedSimpArgs false
set_option linter.unnecessarySimpa false
/- short -/
namespace Go.Proofs.Ytdbadicpbmndbaa
open Go Lg

/-! ### plain -/
def numOf : List Int → Int → Nat
  | [], _ => 0
  | x :: r, v => if x = v then 0 else numOf r v + 1
def addN (ns : List Int) (v : Int) : List Int := if v ∈ ns then ns else ns ++ [v]
theorem numOf_le : ∀ (ns : List Int) (v : Int), numOf ns v ≤ ns.length
  | [], _ => Nat.le_refl _
  | x :: r, v => by simp only [numOf]; split; omega; have := numOf_le r v; simp only [List.length_cons]; omega
theorem numOf_lt : ∀ {ns : List Int} {v : Int}, v ∈ ns → numOf ns v < ns.length
  | x :: r, v, h => by
    simp only [numOf]
    by_cases e : x = v
    · rw [if_pos e]; simp
    · rw [if_neg e]
      have := numOf_lt (List.mem_of_ne_of_mem (fun q => e q.symm) h)
      simp only [List.length_cons]; omega
theorem numOf_app : ∀ {ns : List Int} {v : Int} (ms : List Int), v ∈ ns → numOf (ns ++ ms) v = numOf ns v
  | x :: r, v, ms, h => by
    simp only [numOf, List.cons_append]
    by_cases e : x = v
    · rw [if_pos e, if_pos e]
    · rw [if_neg e, if_neg e, numOf_app ms (List.mem_of_ne_of_mem (fun q => e q.symm) h)]
theorem numOf_new : ∀ {ns : List Int} {v : Int}, v ∉ ns → numOf (ns ++ [v]) v = ns.length
  | [], v, _ => by simp [numOf]
  | x :: r, v, h => by
    simp only [numOf, List.cons_append]
    rw [if_neg (fun e => h (by simp [e])), numOf_new (fun q => h (List.mem_cons_of_mem _ q))]; rfl
theorem addN_mem (ns : List Int) (v : Int) : v ∈ addN ns v := by unfold addN; split; assumption; simp
theorem addN_pre (ns : List Int) (v : Int) : ∃ ms, addN ns v = ns ++ ms := by unfold addN; split; exact ⟨[], by simp⟩; exact ⟨_, rfl⟩
theorem addN_len (ns : List Int) (v : Int) : (addN ns v).length ≤ ns.length + 1 := by unfold addN; split <;> simp
mutual
def renT : List Int → T → T × List Int
  | ns, .mk h ts => if h < 0 then (.mk (-1 - (numOf (addN ns (-1 - h)) (-1 - h) : Nat)) [], addN ns (-1 - h)) else (.mk h (renL ns ts).1, (renL ns ts).2)
def renL : List Int → List T → List T × List Int
  | ns, [] => ([], ns)
  | ns, t :: r => ((renT ns t).1 :: (renL (renT ns t).2 r).1, (renL (renT ns t).2 r).2)
end
theorem renL_app : ∀ (a b : List T) (ns : List Int), renL ns (a ++ b) = ((renL ns a).1 ++ (renL (renL ns a).2 b).1, (renL (renL ns a).2 b).2)
  | [], b, ns => by simp [renL]
  | t :: r, b, ns => by simp only [List.cons_append, renL, renL_app r b]
theorem renL_one (ns : List Int) (t : T) : renL ns [t] = ([(renT ns t).1], (renT ns t).2) := by simp [renL]
theorem renL_take (ns : List Int) (ts : List T) (k : Nat) (h : k < ts.length) : renL ns (ts.take (k + 1)) = ((renL ns (ts.take k)).1 ++ [(renT (renL ns (ts.take k)).2 ts[k]).1], (renT (renL ns (ts.take k)).2 ts[k]).2) := by
  rw [List.take_succ_eq_append_getElem h, renL_app, renL_one]
theorem renL_len : ∀ (ns : List Int) (ts : List T), (renL ns ts).1.length = ts.length
  | _, [] => by simp [renL]
  | ns, t :: r => by simp [renL, renL_len _ r]
mutual
theorem renT_grow : ∀ (t : T) (ns : List Int), (renT ns t).2.length ≤ ns.length + t.size
  | .mk h ts, ns => by
    simp only [renT, T.size]
    split
    · have := addN_len ns (-1 - h); simp only; omega
    · have := renL_grow ts ns; simp only; omega
theorem renL_grow : ∀ (ts : List T) (ns : List Int), (renL ns ts).2.length ≤ ns.length + sizeL ts
  | [], ns => by simp [renL, sizeL]
  | t :: r, ns => by
    have h1 := renT_grow t ns
    have h2 := renL_grow r (renT ns t).2
    simp only [renL, sizeL]; omega
end
/-- a map of numbers -/
def MN (mp : Mp) (ns : List Int) : Prop := mp.length = ns.length ∧ ∀ v, mget mp v = if v ∈ ns then some (.int .i64 (numOf ns v : Nat)) else none
theorem MN.nil : MN [] [] := ⟨rfl, fun v => by simp [mget]⟩
theorem MN.add {mp : Mp} {ns : List Int} {v : Int} (h : MN mp ns) (hv : v ∉ ns) : MN (mput mp v (.int .i64 ns.length)) (addN ns v) := by
  have hn : mget mp v = none := by rw [h.2, if_neg hv]
  have e : addN ns v = ns ++ [v] := by unfold addN; rw [if_neg hv]
  refine ⟨?_, fun u => ?_⟩
  · have := congrArg List.length (mput_keys mp v (.int .i64 ns.length))
    rw [if_pos hn] at this
    simp only [List.length_map, List.length_append, List.length_cons, List.length_nil] at this
    rw [this, e, h.1]; simp
  · rw [mget_mput, e]
    by_cases q : v = u
    · subst q; rw [if_pos rfl, if_pos (by simp), numOf_new hv]
    · rw [if_neg q, h.2]
      by_cases m : u ∈ ns
      · rw [if_pos m, if_pos (by simp [m]), numOf_app _ m]
      · rw [if_neg m, if_neg (by simp [m]; exact fun e => q e.symm)]
/-! ### walks -/
abbrev nmE (cb m : Nat) (mp : Mp) : List Ent := [.box cb 139 [.map (some m)], .map m mp]
theorem Norm1_does {I : Imm} {cb m : Nat} {mp : Mp} {ns : List Int} {v : Int} (hm : MN mp ns) (hb : ns.length ≤ 1000000) :
    Does Try.prog 122 [.int .i64 v, .pointer (some ⟨cb, 0, none⟩)] I (nmE cb m mp) (fun r I' δ' => r = .int .i64 (numOf (addN ns v) v : Nat) ∧ ∃ mp', MN mp' (addN ns v) ∧ δ' = nmE cb m mp') := by
  refine Does.intro Try.func122 rfl Try.ntmps122 rfl fun w0 => ?_
  refine code_seq ?_
  refine code_region ?_
  refine op_v (v_assign rfl) rfl ?_
  refine ops_nil ?_
  refine post_next ?_
  refine code_seq ?_
  refine code_region ?_
  refine op_v (v_loadA ty139 rfl rfl) rfl ?_
  refine op_v (v_move rfl) rfl ?_
  by_cases hv : v ∈ ns
  · have hg := hm.2 v
    rw [if_pos hv] at hg
    have he : addN ns v = ns := by unfold addN; rw [if_pos hv]
    refine op_v (v_mlook2 (v := .int .i64 (numOf ns v : Nat)) (g := true) Try.underlying139 Try.underlying3 z3 rfl rfl (Has.there Has.here) (by rw [hg]; rfl) (by rw [hg]; rfl)) rfl ?_
    refine op_v (v_move rfl) rfl ?_
    refine op_v (v_extract rfl rfl) rfl ?_
    refine op_v (v_extract rfl rfl) rfl ?_
    refine op_v (v_assign rfl) rfl ?_
    refine op_v (v_assign rfl) rfl ?_
    refine ops_nil ?_
    refine post_next ?_
    refine code_seq ?_
    refine code_seq ?_
    refine code_region ?_
    refine op_v (v_move rfl) rfl ?_
    refine op_v (v_not rfl) rfl ?_
    refine ops_nil ?_
    refine post_next ?_
    refine code_cond_f rfl ?_
    refine code_skip ?_
    refine post_next ?_
    refine code_seq ?_
    refine code_region ?_
    refine op_v (v_move rfl) rfl ?_
    refine op_v (v_assign rfl) rfl ?_
    refine ops_nil ?_
    refine post_next ?_
    refine code_ret ?_
    refine post_ret (rs := [.tmp 3]) rfl (List.Perm.refl _) (.cons (.tmp rfl) .nil) (List.Sublist.refl _) ?_
    exact ⟨by rw [he]; rfl, mp, by rw [he]; exact hm, rfl⟩
  · have hg := hm.2 v
    rw [if_neg hv] at hg
    have he : addN ns v = ns ++ [v] := by unfold addN; rw [if_neg hv]
    refine op_v (v_mlook2 (v := .int .i64 0) (g := false) Try.underlying139 Try.underlying3 z3 rfl rfl (Has.there Has.here) (by rw [hg]; rfl) (by rw [hg]; rfl)) rfl ?_
    refine op_v (v_move rfl) rfl ?_
    refine op_v (v_extract rfl rfl) rfl ?_
    refine op_v (v_extract rfl rfl) rfl ?_
    refine op_v (v_assign rfl) rfl ?_
    refine op_v (v_assign rfl) rfl ?_
    refine ops_nil ?_
    refine post_next ?_
    refine code_seq ?_
    refine code_seq ?_
    refine code_region ?_
    refine op_v (v_move rfl) rfl ?_
    refine op_v (v_not rfl) rfl ?_
    refine ops_nil ?_
    refine post_next ?_
    refine code_cond_t rfl ?_
    refine code_seq ?_
    refine code_region ?_
    refine op_v (v_loadA ty139 rfl rfl) rfl ?_
    refine op_v (v_mlen Try.underlying139 rfl (Has.there Has.here)) rfl ?_
    rw [hm.1]
    refine op_v (v_assign rfl) rfl ?_
    refine ops_nil ?_
    refine post_next ?_
    refine code_region ?_
    refine op_v (v_loadA ty139 rfl rfl) rfl ?_
    refine op_v (v_move rfl) rfl ?_
    refine op_v (v_move rfl) rfl ?_
    refine o_mapUpdate Try.underlying139 Try.underlying3 rfl rfl rfl rfl (by repeat (first | exact Swap.here | apply Swap.there)) ?_
    refine ops_nil ?_
    refine post_next ?_
    refine code_seq ?_
    refine code_region ?_
    refine op_v (v_move rfl) rfl ?_
    refine op_v (v_assign rfl) rfl ?_
    refine ops_nil ?_
    refine post_next ?_
    refine code_ret ?_
    refine post_ret (rs := [.tmp 3]) rfl (List.Perm.refl _) (.cons (.tmp rfl) .nil) (List.Sublist.refl _) ?_
    exact ⟨by rw [he, numOf_new hv]; rfl, _, hm.add hv, rfl⟩
theorem ren_does {cb m : Nat} : ∀ (n : Nat) (t : T), t.size ≤ n → ∀ (I : Imm) (v : Value) (ns : List Int) (mp : Mp), RepT I v t → MN mp ns → ns.length + t.size ≤ 1000000 →
    Does Try.prog 123 [.agg #[.func (.func 122) #[] #[.pointer (some ⟨cb, 0, none⟩)]], v] I (nmE cb m mp) (fun r I' δ' => RepT I' r (renT ns t).1 ∧ ∃ mp', MN mp' (renT ns t).2 ∧ δ' = nmE cb m mp') := by
  intro n
  induction n with
  | zero => intro t ht; have := t.size_pos; omega
  | succ n ih =>
    intro t ht I v ns mp hv hmn hbd
    obtain ⟨h, ts⟩ := t
    obtain ⟨ad, c, ss, rfl, hr, hc, hb, hat, hsub⟩ := hv.elim
    have hsz : (T.mk h ts).size = 1 + sizeL ts := by simp [T.size]
    have hr0 := hr
    unfold InR at hr0
    refine Does.intro Try.func123 rfl Try.ntmps123 rfl fun w0 => ?_
    refine code_seq ?_
    refine code_region ?_
    refine o_box rfl rfl rfl (fun b2 => ?_)
    refine o_box rfl rfl rfl (fun b3 => ?_)
    refine o_alloc z47 rfl rfl (fun b4 => ?_)
    refine ops_nil ?_
    refine post_next ?_
    refine code_seq ?_
    refine code_seq ?_
    refine code_region ?_
    first | refine op_v (v_fieldB 0 Try.underlying47 rfl rfl fz3 rfl) rfl ?_ | refine op_v (v_fieldI 0 Try.underlying47 rfl rfl fz3 rfl (by assumption)) rfl ?_ | refine op_v (v_field Try.underlying47 rfl fz3 rfl rfl) rfl ?_
    refine op_v (v_loadA ty3 rfl rfl) rfl ?_
    by_cases hneg : h < 0
    · have hnl := numOf_le (addN ns (-1 - h)) (-1 - h)
      have hal := addN_len ns (-1 - h)
      have hre : renT ns (.mk h ts) = (.mk (-1 - (numOf (addN ns (-1 - h)) (-1 - h) : Nat)) [], addN ns (-1 - h)) := by simp only [renT]; rw [if_pos hneg]
      first | refine op_v (v_cmptA rfl rfl rfl) rfl ?_ | refine op_v (v_cmpfA rfl rfl rfl) rfl ?_ | refine op_v (v_cmp rfl rfl rfl) rfl ?_
      refine ops_nil ?_
      refine post_next ?_
      refine code_cond_t rfl ?_
      refine code_seq ?_
      refine code_region ?_
      first | refine op_v (v_fieldB 0 Try.underlying143 rfl rfl fz141 rfl) rfl ?_ | refine op_v (v_fieldI 0 Try.underlying143 rfl rfl fz141 rfl (by assumption)) rfl ?_ | refine op_v (v_field Try.underlying143 rfl fz141 rfl rfl) rfl ?_
      refine op_v (v_loadA ty141 rfl rfl) rfl ?_
      first | refine op_v (v_fieldB 0 Try.underlying47 rfl rfl fz3 rfl) rfl ?_ | refine op_v (v_fieldI 0 Try.underlying47 rfl rfl fz3 rfl (by assumption)) rfl ?_ | refine op_v (v_field Try.underlying47 rfl fz3 rfl rfl) rfl ?_
      refine op_v (v_loadA ty3 rfl rfl) rfl ?_
      first | refine op_v (v_subb rfl rfl rfl (by omega)) rfl ?_ | refine op_v (v_sub rfl rfl) rfl ?_
      refine op_fcall rfl rfl rfl ((FDoes.ofFunc (args := [_]) (caps := [_]) pl122 (Norm1_does (v := -1 - h) hmn (by omega)))) (List.perm_append_comm (l₁ := [_, _, _])) ?_
      rintro v16 I16 _ hI16 ⟨rfl, mp16, hm16, rfl⟩
      refine OpsJ.view (View.perm (List.perm_append_comm (l₂ := [_, _, _]))) ?_
      refine op_v (v_subb (c := -1 - ((numOf (addN ns (-1 - h)) (-1 - h) : Nat) : Int)) rfl rfl rfl (by omega)) rfl ?_
      refine op_v (v_build bl47 rfl rfl) rfl ?_
      refine o_store ty47 rfl rfl rfl rfl rfl (by repeat (first | exact Swap.here | apply Swap.there)) rfl ?_
      refine ops_nil ?_
      refine post_next ?_
      refine code_ret ?_
      refine post_ret_then ?_
      refine post_ret (rs := [.cell 4 47]) rfl (List.Perm.refl _) (.cons (.cell rfl ty47 (by repeat (first | exact Has.here | apply Has.there)) rfl) .nil) (List.Sublist.cons _ (List.Sublist.cons _ (List.Sublist.cons _ (List.Sublist.refl _)))) ?_
      exact ⟨by rw [hre]; exact RepT.mk _ (.mk _ []) (by show InR (-1 - ((numOf (addN ns (-1 - h)) (-1 - h) : Nat) : Int)); unfold InR; omega) (RepS.nil _), mp16, by rw [hre]; exact hm16, rfl⟩
    · have hre : renT ns (.mk h ts) = (.mk h (renL ns ts).1, (renL ns ts).2) := by simp only [renT]; rw [if_neg hneg]
      first | refine op_v (v_cmptA rfl rfl rfl) rfl ?_ | refine op_v (v_cmpfA rfl rfl rfl) rfl ?_ | refine op_v (v_cmp rfl rfl rfl) rfl ?_
      refine ops_nil ?_
      refine post_next ?_
      refine code_cond_f rfl ?_
      refine code_skip ?_
      refine post_next ?_
      refine code_seq ?_
      refine code_region ?_
      first | refine op_v (v_fieldB 0 Try.underlying47 rfl rfl fz3 rfl) rfl ?_ | refine op_v (v_fieldI 0 Try.underlying47 rfl rfl fz3 rfl (by assumption)) rfl ?_ | refine op_v (v_field Try.underlying47 rfl fz3 rfl rfl) rfl ?_
      refine op_v (v_loadA ty3 rfl rfl) rfl ?_
      refine op_v (v_build bl47 rfl rfl) rfl ?_
      refine o_alloc z47 rfl rfl (fun b5 => ?_)
      refine o_store ty47 rfl rfl rfl rfl rfl (by repeat (first | exact Swap.here | apply Swap.there)) rfl ?_
      refine ops_nil ?_
      refine post_next ?_
      refine code_seq ?_
      refine code_seq ?_
      refine code_region ?_
      first | refine op_v (v_fieldB 1 Try.underlying47 rfl rfl fz45 rfl) rfl ?_ | refine op_v (v_fieldI 1 Try.underlying47 rfl rfl fz45 rfl (by assumption)) rfl ?_ | refine op_v (v_field Try.underlying47 rfl fz45 rfl rfl) rfl ?_
      refine op_v (v_loadA ty45 rfl rfl) rfl ?_
      refine op_v (v_len Try.underlying45 rfl) rfl ?_
      refine op_v (v_move rfl) rfl ?_
      refine ops_nil ?_
      refine post_next ?_
      refine code_block ?_
      refine CodeJ.view (View.nilRow 47 2) ?_
      refine code_loop (fun mm σ' I' δ' => ∃ (k : Nat) (ar : Option Addr) (cr : Nat) (xs : List Value) (mq : Mp), mm = ts.length - k ∧ k ≤ ts.length ∧ σ' = [(2, .pointer (some ⟨b2, 0, none⟩)), (4, .pointer (some ⟨b4, 0, none⟩)), (5, .pointer (some ⟨b5, 0, none⟩)), (23, .slice ad ts.length c), (24, .int .i64 ts.length), (25, .int .i64 k)] ∧ I.le I' ∧ δ' = .row (.slice ar k cr) 47 2 k xs :: .box b5 47 [.int .i64 h, .slice ar k cr] :: .box b4 47 [.int .i64 0, .slice none 0 0] :: .box b3 47 [.int .i64 h, .slice ad ts.length c] :: .box b2 143 [.func (.func 122) #[] #[.pointer (some ⟨cb, 0, none⟩)]] :: nmE cb m mq ∧ RowT I' xs (renL ns (ts.take k)).1 ∧ MN mq (renL ns (ts.take k)).2) ts.length [(2, .pointer (some ⟨b2, 0, none⟩)), (4, .pointer (some ⟨b4, 0, none⟩)), (5, .pointer (some ⟨b5, 0, none⟩)), (23, .slice ad ts.length c), (24, .int .i64 ts.length), (25, .int .i64 (0 : Nat))] ⟨0, none, 0, [], mp, rfl, Nat.zero_le _, rfl, Imm.le_refl _, rfl, RowT.nil _, hmn⟩ ⟨rfl, rfl, rfl, rfl, rfl, rfl, trivial⟩ ?_
      rintro mm _ I1 _ ⟨k, ar, cr, xs, mq, rfl, hk, rfl, hI1, rfl, hp, hmq⟩
      have hgr := renL_grow (ts.take k) ns
      refine code_seq ?_
      refine code_region ?_
      first | refine op_v (v_cmptA rfl rfl rfl) rfl ?_ | refine op_v (v_cmpfA rfl rfl rfl) rfl ?_ | refine op_v (v_cmp rfl rfl rfl) rfl ?_
      refine ops_nil ?_
      refine post_next ?_
      refine code_seq ?_
      refine code_cond rfl (fun hc1 => ?_) (fun hc1 => ?_)
      · have hlt : k < ts.length := by simpa using hc1
        have hs1 := (hat k hlt).isSome
        have hm1 := sizeL_mem ts k hlt
        have hst := sizeL_take ts k hlt
        have hsd : sizeL (ts.take (k + 1)) + sizeL (ts.drop (k + 1)) = sizeL ts := by rw [← sizeL_app, List.take_append_drop]
        have hrt := renL_take ns ts k hlt
        refine code_skip ?_
        refine post_next ?_
        refine code_seq ?_
        refine code_block ?_
        refine code_seq ?_
        refine code_region ?_
        first | refine op_v (v_indexA Try.underlying45 sz47 rfl rfl) rfl ?_ | refine op_v (v_indexIA Try.underlying45 sz47 rfl rfl) rfl ?_
        first | refine op_v (v_loadI0 ty47 ((hat k hlt).mono hI1) rfl rfl rfl) rfl ?_ | refine op_v (v_loadI ty47 ((hat k hlt).mono hI1) rfl rfl rfl) rfl ?_
        refine o_alloc z47 rfl rfl (fun b7 => ?_)
        refine o_store ty47 rfl rfl rfl rfl rfl (by repeat (first | exact Swap.here | apply Swap.there)) rfl ?_
        refine ops_nil ?_
        refine post_next ?_
        refine code_draw (.fl 0 (.fl 1 (.fl 2 (.fl 3 (.ef 4 (.ef 5 (.ef 6 (.fl 7 (.ef 8 .done))))))))) (fun _ => [.box b7 47 [.int .i64 ts[k].head, .slice (ss k).1 ts[k].args.length (ss k).2], .box b5 47 [.int .i64 h, .slice ar k cr], .box b2 143 [.func (.func 122) #[] #[.pointer (some ⟨cb, 0, none⟩)]]]) mixed (by kernel_rfl) (by kernel_rfl) (fun _ => (List.Sublist.cons_cons _ (List.Sublist.cons _ (List.Sublist.cons_cons _ (List.Sublist.cons _ (List.Sublist.cons _ (List.Sublist.cons_cons _ (List.nil_sublist _)))))))) ?_
        first | refine e_fl rfl rfl (fun hs_ => PF.mk rfl (v_fieldB 1 Try.underlying47 rfl rfl fz45 rfl) hs_) ?_ | refine e_fl rfl rfl (fun hs_ => PF.mk rfl (v_fieldI 1 Try.underlying47 rfl rfl fz45 rfl (by assumption)) hs_) ?_ | refine e_fl rfl rfl (fun hs_ => PF.mk rfl (v_field Try.underlying47 rfl fz45 rfl rfl) hs_) ?_
        refine e_fl rfl rfl (fun hs_ => PF.mk rfl (v_loadA ty45 rfl rfl) hs_) ?_
        refine e_fl rfl rfl (fun hs_ => PF.mk rfl (v_loadA ty143 rfl rfl) hs_) ?_
        refine e_fl rfl rfl (fun hs_ => PF.mk rfl (v_loadA ty47 rfl rfl) hs_) ?_
        refine e_eff rfl (by intro cs b hc; cases hc) (by intro c hc; cases hc) ?_
        refine op_call pl123 rfl rfl ((ih ts[k] (by omega) _ _ _ _ ((hsub k hlt).mono hI1) hmq (by omega))) (List.perm_append_comm (l₁ := [_, _, _, _, _, _])) ?_
        rintro v33 I33 _ hI33 ⟨hv33, mq33, hmq33, rfl⟩
        obtain ⟨p33, q33, rfl, _⟩ := hv33.shape
        refine OpsJ.view (View.perm (List.perm_append_comm (l₂ := [_, _, _, _, _, _]))) ?_
        refine ops_nil ?_
        refine e_next rfl side_allA ?_
        refine e_eff rfl (by intro cs b hc; cases hc) (by intro c hc; cases hc) ?_
        refine o_buildSlice (xs := [(Go.Operand.tmp 33)]) Try.underlying45 bs47 rfl rfl rfl rfl rfl (fun b34 => ?_)
        refine ops_nil ?_
        refine e_next rfl side_allA ?_
        refine e_eff rfl (by intro cs b hc; cases hc) (by intro c hc; cases hc) ?_
        refine o_append Try.underlying45 bs47 rfl rfl rfl (fun v' => by repeat (first | exact Swap.here | apply Swap.there)) (Src.ofRow (by repeat (first | exact Has.here | apply Has.there)) rfl) (by first | rfl | omega | simp) (by simp [cat, cellsL, Value.oneCell']) (by omega) (by omega) (fun a35 c35 => ?_)
        refine ops_nil ?_
        refine e_next rfl side_allA ?_
        first | refine e_fl rfl rfl (fun hs_ => PF.mk rfl (v_fieldB 1 Try.underlying47 rfl rfl fz45 rfl) hs_) ?_ | refine e_fl rfl rfl (fun hs_ => PF.mk rfl (v_fieldI 1 Try.underlying47 rfl rfl fz45 rfl (by assumption)) hs_) ?_ | refine e_fl rfl rfl (fun hs_ => PF.mk rfl (v_field Try.underlying47 rfl fz45 rfl rfl) hs_) ?_
        refine e_eff rfl (by intro cs b hc; cases hc) (by intro c hc; cases hc) ?_
        refine o_store ty45 rfl rfl rfl rfl rfl (by repeat (first | exact Swap.here | apply Swap.there)) rfl ?_
        refine ops_nil ?_
        refine e_next_ (side_nil (by kernel_rfl)) ?_
        refine e_done ?_
        refine post_out ?_
        refine post_next ?_
        refine code_region ?_
        first | refine op_v (v_addb rfl rfl rfl (by omega)) rfl ?_ | refine op_v (v_add rfl rfl) rfl ?_
        refine op_v (v_move rfl) rfl ?_
        refine ops_nil ?_
        refine PostJ.view ((View.drop Del.here).trans (View.drop Del.here)) ?_
        refine post_again (ts.length - (k + 1)) [(2, .pointer (some ⟨b2, 0, none⟩)), (4, .pointer (some ⟨b4, 0, none⟩)), (5, .pointer (some ⟨b5, 0, none⟩)), (23, .slice ad ts.length c), (24, .int .i64 ts.length), (25, .int .i64 ((k + 1 : Nat) : Int))] (by omega) ⟨k + 1, a35, c35, xs ++ [.int .i64 (renT (renL ns (ts.take k)).2 ts[k]).1.head, .slice p33 (renT (renL ns (ts.take k)).2 ts[k]).1.args.length q33], mq33, rfl, hlt, rfl, Imm.leA, rfl, ?_, by rw [hrt]; exact hmq33⟩ ⟨rfl, rfl, rfl, rfl, rfl, rfl, trivial⟩
        rw [hrt]
        exact (hp.mono hI33).app (RowT.one hv33)
      · have hge : k = ts.length := by simp at hc1; omega
        subst hge
        rw [List.take_length] at hp hmq
        refine code_exit ?_
        refine post_exit_then ?_
        refine post_exit_then ?_
        refine post_exit ?_
        refine post_next ?_
        refine code_seq ?_
        refine code_region ?_
        refine OpsJ.freezeRow Del.here ?_
        rintro I38 ar2 cr2 hI38 hvr hcr hlr hcells
        cases hvr
        refine op_v (v_loadA ty47 rfl rfl) rfl ?_
        refine o_store ty47 rfl rfl rfl rfl rfl (by repeat (first | exact Swap.here | apply Swap.there)) rfl ?_
        refine ops_nil ?_
        refine post_next ?_
        refine code_ret ?_
        refine post_ret (rs := [.cell 4 47]) rfl (List.Perm.refl _) (.cons (.cell rfl ty47 (by repeat (first | exact Has.here | apply Has.there)) rfl) .nil) (List.Sublist.cons _ (List.Sublist.cons _ (List.Sublist.cons _ (List.Sublist.cons _ (List.Sublist.refl _))))) ?_
        exact ⟨by rw [hre]; have hl := renL_len ns ts; have := RowT.rep (h := h) hcells (hp.mono hI38) hr (by rw [hl]; exact hcr) (by rw [hl]; exact hb); rw [hl] at this; exact this, mq, by rw [hre]; exact hmq, rfl⟩
def badT (t : T) : Bool := decide (chkT t ≠ 0)
theorem mwrong_does {I : Imm} {v : Value} {ts : List T} (hv : RepS I v ts) (hbig : ∀ t ∈ ts, t.size ≤ 1000000000) :
    Does Try.prog 121 [v] I [] (fun v I' δ' => v = .bool (ts.any badT) ∧ δ' = []) := by
  have h1 : ∀ J u t, I.le J → RepT J u t → t ∈ ts → FDoes Try.prog (.func (.func 157) #[] #[]) [u] J [] (fun v _ δ' => v = .bool (badT t) ∧ δ' = []) := fun J u t hJ hu ht => by
    obtain ⟨ua, uc, rfl, _⟩ := hu.shape
    refine Does.toF (args := [_]) (by kernel_rfl) ?_
    refine Does.intro Try.func157 rfl Try.ntmps157 rfl fun w0 => ?_
    refine code_seq ?_
    refine code_region ?_
    refine o_box rfl rfl rfl (fun b1 => ?_)
    refine op_v (v_assign rfl) rfl ?_
    refine ops_nil ?_
    refine post_next ?_
    refine code_seq ?_
    refine code_region ?_
    refine op_v (v_loadA ty47 rfl rfl) rfl ?_
    refine op_call pl105 rfl rfl ((TCheck_does hu (hbig t ht))) Parts.none ?_
    rintro v4 I4 _ hI4 ⟨rfl, rfl⟩
    refine op_v (v_cmp (z := badT t) rfl rfl rfl) rfl ?_
    refine op_v (v_assign rfl) rfl ?_
    refine ops_nil ?_
    refine post_next ?_
    refine code_ret ?_
    refine post_ret (rs := [.tmp 2]) rfl (List.Perm.refl _) (.cons (.tmp rfl) .nil) (List.nil_sublist _) ?_
    exact ⟨rfl, rfl⟩
  refine Does.intro Try.func121 rfl Try.ntmps121 rfl fun w0 => ?_
  refine code_seq ?_
  refine code_region ?_
  refine op_v (v_assign rfl) rfl ?_
  refine ops_nil ?_
  refine post_next ?_
  refine code_seq ?_
  refine code_region ?_
  refine op_v (v_move rfl) rfl ?_
  refine op_call pl103 rfl rfl ((ContT_does hv h1)) Parts.none ?_
  rintro v4 I4 _ hI4 ⟨rfl, rfl⟩
  refine op_v (v_assign rfl) rfl ?_
  refine ops_nil ?_
  refine post_next ?_
  refine code_ret ?_
  refine post_ret (rs := [.tmp 2]) rfl (List.Perm.refl _) (.cons (.tmp rfl) .nil) (List.nil_sublist _) ?_
  exact ⟨rfl, rfl⟩
theorem MNorm_does {I : Imm} {v : Value} {ts : List T} (hv : RepS I v ts) (hbig : sizeL ts ≤ 100000) :
    Does Try.prog 84 [v] I [] (fun v I' δ' => ((ts.any badT = true ∧ v = .tuple #[.slice none 0 0, .int .i64 1] ∧ δ' = []) ∨ (ts.any badT = false ∧ ∃ a c xs, v = .tuple #[.slice a ts.length c, .int .i64 0] ∧ RowT I' xs (renL [] ts).1 ∧ δ' = [tRow a c ts.length xs]))) := by
  have hsz := sizeL_getL hbig
  have hv0 := hv
  obtain ⟨ad, c, ss, ts, hc, hb, hat, hr, hsub0⟩ := hv
  have hsub : ∀ i (h : i < ts.length), RepT I (.agg #[.int .i64 ts[i].head, .slice (ss i).1 ts[i].args.length (ss i).2]) ts[i] := fun i hi => RepT.mk _ _ (hr i hi) (hsub0 i hi)
  refine Does.intro Try.func84 rfl Try.ntmps84 rfl fun w0 => ?_
  refine code_seq ?_
  refine code_region ?_
  refine op_v (v_assign rfl) rfl ?_
  refine op_v (v_assign rfl) rfl ?_
  refine ops_nil ?_
  refine post_next ?_
  refine code_seq ?_
  refine code_seq ?_
  refine code_region ?_
  refine op_v (v_move rfl) rfl ?_
  refine op_call pl121 rfl rfl ((mwrong_does hv0 (fun t ht => by have := hsz t ht; omega))) Parts.none ?_
  rintro v10 I10 _ hI10 ⟨rfl, rfl⟩
  refine ops_nil ?_
  refine post_next ?_
  refine code_cond rfl (fun hc0 => ?_) (fun hc0 => ?_)
  · refine code_seq ?_
    refine code_region ?_
    refine op_v (v_assign rfl) rfl ?_
    refine op_v (v_assign rfl) rfl ?_
    refine ops_nil ?_
    refine post_next ?_
    refine code_ret ?_
    refine post_ret_then ?_
    refine post_ret (rs := [.tmp 2, .tmp 3]) rfl (List.Perm.refl _) (.cons (.tmp rfl) (.cons (.tmp rfl) .nil)) (List.nil_sublist _) ?_
    exact .inl ⟨hc0, rfl, rfl⟩
  · refine code_skip ?_
    refine post_next ?_
    refine code_seq ?_
    refine code_region ?_
    refine o_makeMap rfl (fun b11 => ?_)
    refine o_alloc z139 rfl rfl (fun b4 => ?_)
    refine o_store ty139 rfl rfl rfl rfl rfl (by repeat (first | exact Swap.here | apply Swap.there)) rfl ?_
    refine ops_nil ?_
    refine post_next ?_
    refine code_seq ?_
    refine code_region ?_
    refine op_v (v_makeFunc rfl rfl) rfl ?_
    refine op_v (v_build bl143 rfl rfl) rfl ?_
    refine o_alloc z143 rfl rfl (fun b5 => ?_)
    refine o_store ty143 rfl rfl rfl rfl rfl (by repeat (first | exact Swap.here | apply Swap.there)) rfl ?_
    refine ops_nil ?_
    refine post_next ?_
    refine code_seq ?_
    refine code_region ?_
    refine op_v (v_assign rfl) rfl ?_
    refine ops_nil ?_
    refine post_next ?_
    refine code_seq ?_
    refine code_seq ?_
    refine code_region ?_
    refine op_v (v_move rfl) rfl ?_
    refine op_v (v_len Try.underlying45 rfl) rfl ?_
    refine op_v (v_move rfl) rfl ?_
    refine ops_nil ?_
    refine post_next ?_
    refine code_block ?_
    refine CodeJ.view (View.nilRow 47 2) ?_
    refine code_loop (fun mm σ' I' δ' => ∃ (k : Nat) (ar : Option Addr) (cr : Nat) (xs : List Value) (mq : Mp), mm = ts.length - k ∧ k ≤ ts.length ∧ σ' = [(5, .pointer (some ⟨b5, 0, none⟩)), (6, .slice ar k cr), (14, .slice ad ts.length c), (15, .int .i64 ts.length), (16, .int .i64 k)] ∧ I10.le I' ∧ δ' = .row (.slice ar k cr) 47 2 k xs :: .box b5 143 [.func (.func 122) #[] #[.pointer (some ⟨b4, 0, none⟩)]] :: nmE b4 b11 mq ∧ RowT I' xs (renL [] (ts.take k)).1 ∧ MN mq (renL [] (ts.take k)).2) ts.length [(5, .pointer (some ⟨b5, 0, none⟩)), (6, .slice none 0 0), (14, .slice ad ts.length c), (15, .int .i64 ts.length), (16, .int .i64 (0 : Nat))] ⟨0, none, 0, [], [], rfl, Nat.zero_le _, rfl, Imm.le_refl _, rfl, RowT.nil _, MN.nil⟩ ⟨rfl, rfl, rfl, rfl, rfl, trivial⟩ ?_
    rintro mm _ I1 _ ⟨k, ar, cr, xs, mq, rfl, hk, rfl, hI1, rfl, hp, hmq⟩
    have hgr := renL_grow (ts.take k) []
    refine code_seq ?_
    refine code_region ?_
    first | refine op_v (v_cmptA rfl rfl rfl) rfl ?_ | refine op_v (v_cmpfA rfl rfl rfl) rfl ?_ | refine op_v (v_cmp rfl rfl rfl) rfl ?_
    refine ops_nil ?_
    refine post_next ?_
    refine code_seq ?_
    refine code_cond rfl (fun hc1 => ?_) (fun hc1 => ?_)
    · have hlt : k < ts.length := by simpa using hc1
      have hs1 := (hat k hlt).isSome
      have hm1 := sizeL_mem ts k hlt
      have hst := sizeL_take ts k hlt
      have hsd : sizeL (ts.take (k + 1)) + sizeL (ts.drop (k + 1)) = sizeL ts := by rw [← sizeL_app, List.take_append_drop]
      have hrt := renL_take [] ts k hlt
      rw [List.length_nil] at hgr
      refine code_skip ?_
      refine post_next ?_
      refine code_seq ?_
      refine code_block ?_
      refine code_seq ?_
      refine code_region ?_
      first | refine op_v (v_indexA Try.underlying45 sz47 rfl rfl) rfl ?_ | refine op_v (v_indexIA Try.underlying45 sz47 rfl rfl) rfl ?_
      first | refine op_v (v_loadI0 ty47 ((hat k hlt).mono Imm.leA) rfl rfl rfl) rfl ?_ | refine op_v (v_loadI ty47 ((hat k hlt).mono Imm.leA) rfl rfl rfl) rfl ?_
      refine o_alloc z47 rfl rfl (fun b8 => ?_)
      refine o_store ty47 rfl rfl rfl rfl rfl (by repeat (first | exact Swap.here | apply Swap.there)) rfl ?_
      refine ops_nil ?_
      refine post_next ?_
      refine code_region ?_
      refine op_v (v_move rfl) rfl ?_
      refine op_v (v_loadA ty143 rfl rfl) rfl ?_
      refine op_v (v_loadA ty47 rfl rfl) rfl ?_
      refine op_call pl123 rfl rfl ((ren_does _ _ (Nat.le_refl _) _ _ _ _ ((hsub k hlt).mono Imm.leA) hmq (by omega))) (List.perm_append_comm (l₁ := [_, _, _])) ?_
      rintro v23 I23 _ hI23 ⟨hv23, mq23, hmq23, rfl⟩
      obtain ⟨p23, q23, rfl, _⟩ := hv23.shape
      refine OpsJ.view (View.perm (List.perm_append_comm (l₂ := [_, _, _]))) ?_
      refine o_buildSlice (xs := [(Go.Operand.tmp 23)]) Try.underlying45 bs47 rfl rfl rfl rfl rfl (fun b24 => ?_)
      refine o_append Try.underlying45 bs47 rfl rfl rfl (fun v' => by repeat (first | exact Swap.here | apply Swap.there)) (Src.ofRow (by repeat (first | exact Has.here | apply Has.there)) rfl) (by first | rfl | omega | simp) (by simp [cat, cellsL, Value.oneCell']) (by omega) (by omega) (fun a25 c25 => ?_)
      refine op_v (v_assign rfl) rfl ?_
      refine ops_nil ?_
      refine post_out ?_
      refine post_next ?_
      refine code_region ?_
      first | refine op_v (v_addb rfl rfl rfl (by omega)) rfl ?_ | refine op_v (v_add rfl rfl) rfl ?_
      refine op_v (v_move rfl) rfl ?_
      refine ops_nil ?_
      refine PostJ.view ((View.drop Del.here).trans (View.drop Del.here)) ?_
      refine post_again (ts.length - (k + 1)) [(5, .pointer (some ⟨b5, 0, none⟩)), (6, .slice a25 (k + 1) c25), (14, .slice ad ts.length c), (15, .int .i64 ts.length), (16, .int .i64 ((k + 1 : Nat) : Int))] (by omega) ⟨k + 1, a25, c25, xs ++ [.int .i64 (renT (renL [] (ts.take k)).2 ts[k]).1.head, .slice p23 (renT (renL [] (ts.take k)).2 ts[k]).1.args.length q23], mq23, rfl, hlt, rfl, Imm.leA, rfl, ?_, by rw [hrt]; exact hmq23⟩ ⟨rfl, rfl, rfl, rfl, rfl, trivial⟩
      rw [hrt]
      exact (hp.mono hI23).app (RowT.one hv23)
    · have hge : k = ts.length := by simp at hc1; omega
      subst hge
      rw [List.take_length] at hp hmq
      refine code_exit ?_
      refine post_exit_then ?_
      refine post_exit_then ?_
      refine post_exit ?_
      refine post_next ?_
      refine code_seq ?_
      refine code_region ?_
      refine op_v (v_move rfl) rfl ?_
      refine op_v (v_assign rfl) rfl ?_
      refine op_v (v_assign rfl) rfl ?_
      refine ops_nil ?_
      refine post_next ?_
      refine code_ret ?_
      refine post_ret (rs := [.tmp 2, .tmp 3]) rfl (List.Perm.refl _) (.cons (.tmp rfl) (.cons (.tmp rfl) .nil)) (List.Sublist.cons_cons _ (List.nil_sublist _)) ?_
      exact .inr ⟨hc0, _, _, _, rfl, hp, rfl⟩
def ofL : List Li → List T → List Li
  | x :: r, a :: b :: s => ⟨x.neg, a, b⟩ :: ofL r s
  | _, _ => []
theorem ofL_len : ∀ (c : List Li) (ss : List T), ss.length = 2 * c.length → (ofL c ss).length = c.length
  | [], ss, h => by cases ss <;> rfl
  | x :: r, [], h => by simp at h
  | x :: r, [a], h => by simp at h; omega
  | x :: r, a :: b :: s, h => by simp only [ofL, List.length_cons]; rw [ofL_len r s (by simp at h; omega)]
theorem ofL_take : ∀ (c : List Li) (ss : List T) (k : Nat) (hk : k < c.length) (h : ss.length = 2 * c.length), ofL (c.take (k + 1)) ss = ofL (c.take k) ss ++ [⟨c[k].neg, ss[2 * k], ss[2 * k + 1]⟩]
  | x :: r, a :: b :: s, 0, hk, h => by
    show ofL (x :: r.take 0) (a :: b :: s) = ofL [] (a :: b :: s) ++ _
    simp [ofL]
  | x :: r, a :: b :: s, k + 1, hk, h => by
    have ih := ofL_take r s k (by simpa using hk) (by simp at h; omega)
    show ofL (x :: r.take (k + 1)) (a :: b :: s) = ofL (x :: r.take k) (a :: b :: s) ++ _
    simp only [ofL, ih, List.cons_append]
    congr 1
  | [], _, k, hk, h => by simp at hk
  | x :: r, [], k, hk, h => by simp at h
  | x :: r, [a], k, hk, h => by simp at h; omega
theorem Cof_does {I : Imm} {v vs : Value} {c : List Li} {ts : List T} (hv : RepC I v c) (hs : RepS I vs ts) (hl2 : ts.length = 2 * c.length) :
    Does Try.prog 86 [v, vs] I [] (fun v' I' δ' => RepC I' v' (ofL c ts) ∧ δ' = []) := by
  obtain ⟨ad, c0, xs, rfl, hc, hb, hcells, hrow⟩ := hv
  obtain ⟨sd, sc, ss, ts, hc2, hb2, hat2, hr2, hsub0⟩ := hs
  have hsub : ∀ i (h : i < ts.length), RepT I (.agg #[.int .i64 ts[i].head, .slice (ss i).1 ts[i].args.length (ss i).2]) ts[i] := fun i hi => RepT.mk _ _ (hr2 i hi) (hsub0 i hi)
  refine Does.intro Try.func86 rfl Try.ntmps86 rfl fun w0 => ?_
  refine code_seq ?_
  refine code_region ?_
  refine op_v (v_assign rfl) rfl ?_
  refine ops_nil ?_
  refine post_next ?_
  refine code_seq ?_
  refine code_region ?_
  refine op_v (v_assign rfl) rfl ?_
  refine ops_nil ?_
  refine post_next ?_
  refine code_seq ?_
  refine code_seq ?_
  refine code_region ?_
  refine op_v (v_move rfl) rfl ?_
  refine op_v (v_len Try.underlying26 rfl) rfl ?_
  refine op_v (v_move rfl) rfl ?_
  refine ops_nil ?_
  refine post_next ?_
  refine code_block ?_
  refine CodeJ.view (View.nilRow 49 5) ?_
  refine code_loop (fun m σ' I' δ' => ∃ (k : Nat) (A : Option Addr) (c' : Nat) (ys : List Value), m = c.length - k ∧ k ≤ c.length ∧ σ' = [(1, .slice sd ts.length sc), (5, .slice A k c'), (8, .slice ad c.length c0), (9, .int .i64 c.length), (10, .int .i64 k)] ∧ I = I' ∧ δ' = [cRow A c' k ys] ∧ RowE LitE I ys (ofL (c.take k) ts)) c.length [(1, .slice sd ts.length sc), (5, .slice none 0 0), (8, .slice ad c.length c0), (9, .int .i64 c.length), (10, .int .i64 (0 : Nat))] ⟨0, none, 0, [], rfl, Nat.zero_le _, rfl, rfl, rfl, rfl⟩ ⟨rfl, rfl, rfl, rfl, rfl, trivial⟩ ?_
  rintro m _ _ _ ⟨k, A, c', ys, rfl, hk, rfl, rfl, rfl, hys⟩
  refine code_seq ?_
  refine code_region ?_
  first | refine op_v (v_cmptA rfl rfl rfl) rfl ?_ | refine op_v (v_cmpfA rfl rfl rfl) rfl ?_ | refine op_v (v_cmp rfl rfl rfl) rfl ?_
  refine ops_nil ?_
  refine post_next ?_
  refine code_seq ?_
  refine code_cond rfl (fun hc0 => ?_) (fun hc0 => ?_)
  · have hlt : k < c.length := by simpa using hc0
    obtain ⟨vs, ⟨la, lc, ra, rc, rfl, hl, hr⟩, hat⟩ := hrow.cellsAt hcells hlt
    have hs1 := hat.isSome
    have ha1 := hat2 (2 * k) (by omega)
    have ha2 := hat2 (2 * k + 1) (by omega)
    have hs2 := ha1.isSome
    refine code_skip ?_
    refine post_next ?_
    refine code_seq ?_
    refine code_block ?_
    refine code_seq ?_
    refine code_region ?_
    refine op_v (v_move rfl) rfl ?_
    first | refine op_v (v_indexA Try.underlying26 sz49 rfl rfl) rfl ?_ | refine op_v (v_indexIA Try.underlying26 sz49 rfl rfl) rfl ?_
    first | refine op_v (v_loadI0 ty49 (hat) rfl rfl rfl) rfl ?_ | refine op_v (v_loadI ty49 (hat) rfl rfl rfl) rfl ?_
    refine o_alloc z49 rfl rfl (fun b7 => ?_)
    refine op_v (v_assign rfl) rfl ?_
    refine o_store ty49 rfl rfl rfl rfl rfl (by repeat (first | exact Swap.here | apply Swap.there)) rfl ?_
    refine ops_nil ?_
    refine post_next ?_
    refine code_draw (.fl 0 (.fl 1 (.fl 2 (.fl 3 (.fl 4 (.fl 5 (.fl 6 (.fl 7 (.fl 8 (.fl 9 (.fl 10 (.fl 11 (.fl 12 (.fl 13 (.fl 14 (.ef 15 (.ef 16 (.ef 17 .done)))))))))))))))))) (fun _ => [.box b7 49 (liC c[k] la lc ra rc)]) mixed (by kernel_rfl) (by kernel_rfl) (fun _ => (List.Sublist.cons_cons _ (List.nil_sublist _))) ?_
    refine e_fl rfl rfl (fun hs_ => PF.mk rfl (v_move rfl) hs_) ?_
    first | refine e_fl rfl rfl (fun hs_ => PF.mk rfl (v_fieldB 0 Try.underlying49 rfl rfl fz4 rfl) hs_) ?_ | refine e_fl rfl rfl (fun hs_ => PF.mk rfl (v_fieldI 0 Try.underlying49 rfl rfl fz4 rfl (by assumption)) hs_) ?_ | refine e_fl rfl rfl (fun hs_ => PF.mk rfl (v_field Try.underlying49 rfl fz4 rfl rfl) hs_) ?_
    refine e_fl rfl rfl (fun hs_ => PF.mk rfl (v_loadA ty4 rfl rfl) hs_) ?_
    refine e_fl rfl rfl (fun hs_ => PF.mk rfl (v_move rfl) hs_) ?_
    refine e_fl rfl rfl (fun hs_ => PF.mk rfl (v_move rfl) hs_) ?_
    refine e_fl rfl rfl (fun hs_ => PF.mk rfl (v_mulb (c := ((2 * k : Nat) : Int)) rfl rfl (by omega) (by omega)) hs_) ?_
    first | refine e_fl rfl rfl (fun hs_ => PF.mk rfl (v_indexA Try.underlying45 sz47 rfl rfl) hs_) ?_ | refine e_fl rfl rfl (fun hs_ => PF.mk rfl (v_indexIA Try.underlying45 sz47 rfl rfl) hs_) ?_
    first | refine e_fl rfl rfl (fun hs_ => PF.mk rfl (v_loadI0 ty47 (ha1) rfl rfl rfl) hs_) ?_ | refine e_fl rfl rfl (fun hs_ => PF.mk rfl (v_loadI ty47 (ha1) rfl rfl rfl) hs_) ?_
    refine e_fl rfl rfl (fun hs_ => PF.mk rfl (v_move rfl) hs_) ?_
    refine e_fl rfl rfl (fun hs_ => PF.mk rfl (v_move rfl) hs_) ?_
    refine e_fl rfl rfl (fun hs_ => PF.mk rfl (v_mulb (c := ((2 * k : Nat) : Int)) rfl rfl (by omega) (by omega)) hs_) ?_
    refine e_fl rfl rfl (fun hs_ => PF.mk rfl (v_addb (c := ((2 * k + 1 : Nat) : Int)) rfl rfl (by omega) (by omega)) hs_) ?_
    first | refine e_fl rfl rfl (fun hs_ => PF.mk rfl (v_indexA Try.underlying45 sz47 rfl rfl) hs_) ?_ | refine e_fl rfl rfl (fun hs_ => PF.mk rfl (v_indexIA Try.underlying45 sz47 rfl rfl) hs_) ?_
    first | refine e_fl rfl rfl (fun hs_ => PF.mk rfl (v_loadI0 ty47 (ha2) rfl rfl rfl) hs_) ?_ | refine e_fl rfl rfl (fun hs_ => PF.mk rfl (v_loadI ty47 (ha2) rfl rfl rfl) hs_) ?_
    refine e_fl rfl rfl (fun hs_ => PF.mk rfl (v_build bl49 rfl rfl) hs_) ?_
    refine e_eff rfl (by intro cs b hc; cases hc) (by intro c hc; cases hc) ?_
    refine o_buildSlice (xs := [(Go.Operand.tmp 29)]) Try.underlying26 bs49 rfl rfl rfl rfl rfl (fun b30 => ?_)
    refine ops_nil ?_
    refine e_next rfl side_allA ?_
    refine e_eff rfl (by intro cs b hc; cases hc) (by intro c hc; cases hc) ?_
    refine o_append Try.underlying26 bs49 rfl rfl rfl (fun v' => by repeat (first | exact Swap.here | apply Swap.there)) (Src.ofRow (by repeat (first | exact Has.here | apply Has.there)) rfl) (by first | rfl | omega | simp) (by simp [cat, cellsL, Value.oneCell']) (by omega) (by omega) (fun a31 c31 => ?_)
    refine ops_nil ?_
    refine e_next rfl side_allA ?_
    refine e_eff rfl (by intro cs b hc; cases hc) (by intro c hc; cases hc) ?_
    refine op_v (v_assign rfl) rfl ?_
    refine ops_nil ?_
    refine e_next rfl (side_nil (by kernel_rfl)) ?_
    refine e_done ?_
    refine post_out ?_
    refine post_next ?_
    refine code_region ?_
    first | refine op_v (v_addb rfl rfl rfl (by omega)) rfl ?_ | refine op_v (v_add rfl rfl) rfl ?_
    refine op_v (v_move rfl) rfl ?_
    refine ops_nil ?_
    refine PostJ.view (View.drop Del.here) ?_
    refine PostJ.view (View.drop Del.here) ?_
    refine post_again (c.length - (k + 1)) [(1, .slice sd ts.length sc), (5, .slice a31 (k + 1) c31), (8, .slice ad c.length c0), (9, .int .i64 c.length), (10, .int .i64 (k + 1 : Nat))] (by omega) ⟨k + 1, a31, c31, ys ++ [.bool c[k].neg, .int .i64 ts[2 * k].head, .slice (ss (2 * k)).1 ts[2 * k].args.length (ss (2 * k)).2, .int .i64 ts[2 * k + 1].head, .slice (ss (2 * k + 1)).1 ts[2 * k + 1].args.length (ss (2 * k + 1)).2], rfl, hlt, rfl, rfl, ?_, ?_⟩ ⟨rfl, rfl, rfl, rfl, rfl, trivial⟩
    · simp [cat, cellsL]
    · rw [ofL_take c ts k hlt hl2]
      exact hys.app (RowE.single ⟨_, _, _, _, rfl, hsub _ _, hsub _ _⟩)
  · have hge : k = c.length := by simp at hc0; omega
    subst hge
    rw [List.take_length] at hys
    refine code_exit ?_
    refine post_exit_then ?_
    refine post_exit_then ?_
    refine post_exit ?_
    refine post_next ?_
    refine code_seq ?_
    refine code_region ?_
    refine OpsJ.freezeRow Del.here ?_
    rintro I33 a33 c33 hI33 hq hc33 hl33 hcells33
    cases hq
    refine op_v (v_move rfl) rfl ?_
    refine op_v (v_assign rfl) rfl ?_
    refine ops_nil ?_
    refine post_next ?_
    refine code_ret ?_
    refine post_ret (rs := [.tmp 4]) rfl (List.Perm.refl _) (.cons (.tmp rfl) .nil) (List.nil_sublist _) ?_
    refine ⟨?_, rfl⟩
    have h2 := ofL_len c ts hl2
    have : RepC I33 (.slice A (ofL c ts).length c') (ofL c ts) := ⟨A, c', ys, rfl, by omega, by omega, hcells33, hys.mono hI33⟩
    rw [h2] at this; exact this
def normC (c : List Li) : List Li := ofL c (renL [] (sidesL c)).1
theorem CNorm_does {I : Imm} {v : Value} {c : List Li} (hv : RepC I v c) (hbig : sizeL (sidesL c) ≤ 100000) :
    Does Try.prog 37 [v] I [] (fun v I' δ' => (((sidesL c).any badT = true ∧ v = .tuple #[.slice none 0 0, .int .i64 1]) ∨ ((sidesL c).any badT = false ∧ ∃ a k, v = .tuple #[.slice a c.length k, .int .i64 0] ∧ RepC I' (.slice a c.length k) (normC c))) ∧ δ' = []) := by
  have h2 := sidesL_len c
  refine Does.intro Try.func37 rfl Try.ntmps37 rfl fun w0 => ?_
  refine code_seq ?_
  refine code_region ?_
  refine op_v (v_assign rfl) rfl ?_
  refine op_v (v_assign rfl) rfl ?_
  refine ops_nil ?_
  refine post_next ?_
  refine code_seq ?_
  refine code_region ?_
  refine op_v (v_move rfl) rfl ?_
  refine op_call pl85 rfl rfl ((Cterms_does hv)) Parts.none ?_
  rintro v8 I8 _ hI8 ⟨hs8, rfl⟩
  refine op_call pl84 rfl rfl ((MNorm_does hs8 hbig)) Parts.none ?_
  rintro v9 I9 δ9 hI9 HR9
  refine op_v (v_move rfl) rfl ?_
  rcases HR9 with ⟨hbad, rfl, rfl⟩ | ⟨hgood, a9, c9, zs9, rfl, hz9, rfl⟩
  · refine op_v (v_extract rfl rfl) rfl ?_
    refine op_v (v_extract rfl rfl) rfl ?_
    refine op_v (v_assign rfl) rfl ?_
    refine op_v (v_assign rfl) rfl ?_
    refine ops_nil ?_
    refine post_next ?_
    refine code_seq ?_
    refine code_seq ?_
    refine code_region ?_
    refine op_v (v_move rfl) rfl ?_
    first | refine op_v (v_cmptA rfl rfl rfl) rfl ?_ | refine op_v (v_cmpfA rfl rfl rfl) rfl ?_ | refine op_v (v_cmp rfl rfl rfl) rfl ?_
    refine ops_nil ?_
    refine post_next ?_
    refine code_cond_t rfl ?_
    refine code_seq ?_
    refine code_region ?_
    refine op_v (v_move rfl) rfl ?_
    refine op_v (v_assign rfl) rfl ?_
    refine op_v (v_assign rfl) rfl ?_
    refine ops_nil ?_
    refine post_next ?_
    refine code_ret ?_
    refine post_ret_then ?_
    refine post_ret (rs := [.tmp 2, .tmp 3]) rfl (List.Perm.refl _) (.cons (.tmp rfl) (.cons (.tmp rfl) .nil)) (List.nil_sublist _) ?_
    exact ⟨.inl ⟨hbad, rfl⟩, rfl⟩
  · refine OpsJ.freezeRow Del.here ?_
    rintro I10 a10 c10 hI10 hq hc10 hl10 hcells10
    cases hq
    have hrl : (renL [] (sidesL c)).1.length = (sidesL c).length := renL_len _ _
    have hr9 : RepS I10 (.slice a9 (sidesL c).length c9) (renL [] (sidesL c)).1 := RowT.repS hrl.symm hcells10 (hz9.mono hI10) hc10 (by rw [h2]; have := hv.small; omega)
    refine op_v (v_extract rfl rfl) rfl ?_
    refine op_v (v_extract rfl rfl) rfl ?_
    refine op_v (v_assign rfl) rfl ?_
    refine op_v (v_assign rfl) rfl ?_
    refine ops_nil ?_
    refine post_next ?_
    refine code_seq ?_
    refine code_seq ?_
    refine code_region ?_
    refine op_v (v_move rfl) rfl ?_
    first | refine op_v (v_cmptA rfl rfl rfl) rfl ?_ | refine op_v (v_cmpfA rfl rfl rfl) rfl ?_ | refine op_v (v_cmp rfl rfl rfl) rfl ?_
    refine ops_nil ?_
    refine post_next ?_
    refine code_cond_f rfl ?_
    refine code_skip ?_
    refine post_next ?_
    refine code_seq ?_
    refine code_region ?_
    refine op_v (v_move rfl) rfl ?_
    refine op_v (v_move rfl) rfl ?_
    refine op_call pl86 rfl rfl ((Cof_does (hv.mono Imm.leA) hr9 (by rw [renL_len]; exact h2))) Parts.none ?_
    rintro v17 I17 _ hI17 ⟨hr17, rfl⟩
    have hl17 : (normC c).length = c.length := ofL_len c _ (by rw [renL_len]; exact h2)
    obtain ⟨a17, c17, hsh⟩ := RepE.shape hr17
    rw [show (ofL c (renL [] (sidesL c)).1).length = c.length from hl17] at hsh
    subst hsh
    refine op_v (v_assign rfl) rfl ?_
    refine op_v (v_assign rfl) rfl ?_
    refine ops_nil ?_
    refine post_next ?_
    refine code_ret ?_
    refine post_ret (rs := [.tmp 2, .tmp 3]) rfl (List.Perm.refl _) (.cons (.tmp rfl) (.cons (.tmp rfl) .nil)) (List.nil_sublist _) ?_
    exact ⟨.inr ⟨hgood, a17, c17, rfl, hr17⟩, rfl⟩
/-! ### a clause's variables -/
def uniL (acc l : List Int) : List Int := l.foldl addN acc
theorem uniL_app (acc a b : List Int) : uniL acc (a ++ b) = uniL (uniL acc a) b := by simp [uniL]
theorem uniL_len (acc l : List Int) : (uniL acc l).length ≤ acc.length + l.length := by
  induction l generalizing acc with
  | nil => simp [uniL]
  | cons x r ih =>
    have h1 := addN_len acc x
    have h2 := ih (addN acc x)
    show (uniL (addN acc x) r).length ≤ _
    simp only [List.length_cons]; omega
theorem uniL_mem (acc l : List Int) (v : Int) : v ∈ uniL acc l ↔ v ∈ acc ∨ v ∈ l := by
  induction l generalizing acc with
  | nil => simp [uniL]
  | cons x r ih =>
    have h1 : v ∈ addN acc x ↔ v ∈ acc ∨ v = x := by
      unfold addN
      split
      · constructor
        · exact .inl
        · rintro (h | rfl); exact h; assumption
      · simp
    show v ∈ uniL (addN acc x) r ↔ _
    rw [ih, h1, List.mem_cons, or_assoc]
def varsGo (acc : List Int) (ts : List T) : List Int := ts.foldl (fun a t => uniL a (varsP (partsT 1 t))) acc
def varsC (c : List Li) : List Int := varsGo [] (sidesL c)
end Go.Proofs.Ytdbadicpbmndbaa
/- Walks: how two literals stand; a literal oriented; the example of the chapter on literals. -/
set_option linter.unusedVariables false
set_option linter.unusedSimpArgs false
set_option linter.unnecessarySimpa false
/- short -/
namespace Go.Proofs.Ytdbadicpbmndbaa
open Go Lg

def litE (gs : List Sy) (x y : Li) : Int := if litG gs x ≠ 0 then litG gs x else litG gs y
theorem litE_ok {gs : List Sy} {x y : Li} (h : litE gs x y = 0) : litG gs x = 0 ∧ litG gs y = 0 := by
  unfold litE at h
  by_cases h1 : litG gs x = 0
  · rw [if_neg (by omega)] at h; exact ⟨h1, h⟩
  · rw [if_pos h1] at h; exact absurd h h1
theorem rowL_mem {x : Li} {t : T} (h : t ∈ rowL x) : t = x.l ∨ t = x.r := by
  unfold rowL at h
  split at h <;> simp at h <;> exact h
theorem rowL_len (x : Li) : (rowL x).length ≤ 4 := by unfold rowL; split <;> simp
def or2 (gs : List Sy) (x : Li) : Li := if stT gs x.l x.r = -1 then ⟨x.neg, x.r, x.l⟩ else x
theorem LCompare_does {I : Imm} {vg va vb : Value} {gs : List Sy} {x y : Li} (hg : RepG I vg gs) (ha : RepL I va x) (hb : RepL I vb y) (h1 : x.l.size ≤ 1000000000) (h2 : x.r.size ≤ 1000000000) (h3 : y.l.size ≤ 1000000000) (h4 : y.r.size ≤ 1000000000) :
    Does Try.prog 49 [vg, va, vb] I [] (fun v _ δ' => v = .tuple #[.int .i64 (if litE gs x y = 0 then mulG gs (rowL x) (rowL y) else 0), .int .i64 (litE gs x y)] ∧ δ' = []) := by
  have ha0 := ha
  have hb0 := hb
  obtain ⟨la, lc, ra, rc, rfl, hl, hr⟩ := ha
  obtain ⟨ma, mc, na, nc, rfl, kl, kr⟩ := hb
  have hx1 := rowL_len x
  have hy1 := rowL_len y
  refine Does.intro Try.func49 rfl Try.ntmps49 rfl fun w0 => ?_
  refine code_seq ?_
  refine code_region ?_
  refine o_box rfl rfl rfl (fun b4 => ?_)
  refine o_box rfl rfl rfl (fun b5 => ?_)
  refine op_v (v_assign rfl) rfl ?_
  refine op_v (v_assign rfl) rfl ?_
  refine ops_nil ?_
  refine post_next ?_
  refine code_seq ?_
  refine code_seq ?_
  refine code_region ?_
  refine op_v (v_move rfl) rfl ?_
  refine op_v (v_loadA ty49 rfl rfl) rfl ?_
  refine op_call pl94 rfl rfl ((LCheck_does (hg.mono Imm.leA) (ha0.mono Imm.leA) h1 h2)) Parts.none ?_
  rintro _ I12 _ hI12 ⟨rfl, rfl⟩
  refine op_v (v_assign rfl) rfl ?_
  refine ops_nil ?_
  refine post_next ?_
  refine code_seq ?_
  refine code_region ?_
  refine op_v (v_move rfl) rfl ?_
  by_cases e1 : litG gs x ≠ 0
  · first | refine op_v (v_cmptA rfl rfl rfl) rfl ?_ | refine op_v (v_cmpfA rfl rfl rfl) rfl ?_ | refine op_v (v_cmp rfl rfl rfl) rfl ?_
    refine ops_nil ?_
    refine post_next ?_
    refine code_cond_t rfl ?_
    refine code_seq ?_
    refine code_region ?_
    refine op_v (v_move rfl) rfl ?_
    refine op_v (v_assign rfl) rfl ?_
    refine op_v (v_assign rfl) rfl ?_
    refine ops_nil ?_
    refine post_next ?_
    refine code_ret ?_
    refine post_ret_then ?_
    refine post_ret (rs := [.tmp 6, .tmp 7]) rfl (List.Perm.refl _) (.cons (.tmp rfl) (.cons (.tmp rfl) .nil)) (List.nil_sublist _) ?_
    have e : litE gs x y = litG gs x := by unfold litE; rw [if_pos e1]
    exact ⟨by rw [e, if_neg e1]; rfl, rfl⟩
  · first | refine op_v (v_cmptA rfl rfl rfl) rfl ?_ | refine op_v (v_cmpfA rfl rfl rfl) rfl ?_ | refine op_v (v_cmp rfl rfl rfl) rfl ?_
    refine ops_nil ?_
    refine post_next ?_
    refine code_cond_f rfl ?_
    refine code_skip ?_
    refine post_next ?_
    refine code_seq ?_
    refine code_seq ?_
    refine code_region ?_
    refine op_v (v_move rfl) rfl ?_
    refine op_v (v_loadA ty49 rfl rfl) rfl ?_
    refine op_call pl94 rfl rfl ((LCheck_does (hg.mono Imm.leA) (hb0.mono Imm.leA) h3 h4)) Parts.none ?_
    rintro _ I18 _ hI18 ⟨rfl, rfl⟩
    refine op_v (v_assign rfl) rfl ?_
    refine ops_nil ?_
    refine post_next ?_
    refine code_seq ?_
    refine code_region ?_
    refine op_v (v_move rfl) rfl ?_
    by_cases e2 : litG gs y ≠ 0
    · first | refine op_v (v_cmptA rfl rfl rfl) rfl ?_ | refine op_v (v_cmpfA rfl rfl rfl) rfl ?_ | refine op_v (v_cmp rfl rfl rfl) rfl ?_
      refine ops_nil ?_
      refine post_next ?_
      refine code_cond_t rfl ?_
      refine code_seq ?_
      refine code_region ?_
      refine op_v (v_move rfl) rfl ?_
      refine op_v (v_assign rfl) rfl ?_
      refine op_v (v_assign rfl) rfl ?_
      refine ops_nil ?_
      refine post_next ?_
      refine code_ret ?_
      refine post_ret_then ?_
      refine post_ret (rs := [.tmp 6, .tmp 7]) rfl (List.Perm.refl _) (.cons (.tmp rfl) (.cons (.tmp rfl) .nil)) (List.nil_sublist _) ?_
      have e : litE gs x y = litG gs y := by unfold litE; rw [if_neg e1]
      exact ⟨by rw [e, if_neg e2]; rfl, rfl⟩
    · have e : litE gs x y = 0 := by unfold litE; rw [if_neg e1]; omega
      obtain ⟨o1, o2⟩ := litG_ok (show litG gs x = 0 by omega)
      obtain ⟨o3, o4⟩ := litG_ok (show litG gs y = 0 by omega)
      have hw : wrongG gs (rowL x ++ rowL y) = 0 := wrongG_ok.2 fun t ht => by
        rcases List.mem_append.1 ht with h | h
        · rcases rowL_mem h with rfl | rfl <;> assumption
        · rcases rowL_mem h with rfl | rfl <;> assumption
      have hsx : ∀ t ∈ rowL x, t.size ≤ 1000000000 := fun t ht => by rcases rowL_mem ht with rfl | rfl <;> assumption
      have hsy : ∀ t ∈ rowL y, t.size ≤ 1000000000 := fun t ht => by rcases rowL_mem ht with rfl | rfl <;> assumption
      first | refine op_v (v_cmptA rfl rfl rfl) rfl ?_ | refine op_v (v_cmpfA rfl rfl rfl) rfl ?_ | refine op_v (v_cmp rfl rfl rfl) rfl ?_
      refine ops_nil ?_
      refine post_next ?_
      refine code_cond_f rfl ?_
      refine code_skip ?_
      refine post_next ?_
      refine code_seq ?_
      refine code_draw (.fl 0 (.fl 1 (.fl 3 (.ef 2 (.ef 4 (.ef 5 (.fl 6 (.fl 7 (.ef 8 (.ef 9 .done)))))))))) (fun _ => _) mixed (by kernel_rfl) (by kernel_rfl) (fun _ => (List.Sublist.refl _)) ?_
      refine e_fl rfl rfl (fun hs_ => PF.mk rfl (v_move rfl) hs_) ?_
      refine e_fl rfl rfl (fun hs_ => PF.mk rfl (v_loadA ty49 rfl rfl) hs_) ?_
      refine e_fl rfl rfl (fun hs_ => PF.mk rfl (v_loadA ty49 rfl rfl) hs_) ?_
      refine e_eff rfl (by intro cs b hc; cases hc) (by intro c hc; cases hc) ?_
      refine op_call pl98 rfl rfl ((row_doesL (ha0.mono Imm.leA))) Parts.none ?_
      rintro v24 I24 _ hI24 ⟨hv24, rfl⟩
      refine ops_nil ?_
      refine e_next rfl side_allA ?_
      refine e_eff rfl (by intro cs b hc; cases hc) (by intro c hc; cases hc) ?_
      refine op_call pl98 rfl rfl ((row_doesL (hb0.mono Imm.leA))) Parts.none ?_
      rintro v26 I26 _ hI26 ⟨hv26, rfl⟩
      refine ops_nil ?_
      refine e_next rfl side_allA ?_
      refine e_eff rfl (by intro cs b hc; cases hc) (by intro c hc; cases hc) ?_
      refine op_call pl97 rfl rfl ((Multi_does (hg.mono Imm.leA) (hv24.mono Imm.leA) (hv26.mono Imm.leA) hsx hsy (by omega) (by omega))) Parts.none ?_
      rintro _ I27 _ hI27 ⟨rfl, rfl⟩
      rw [if_pos hw, hw]
      refine ops_nil ?_
      refine e_next rfl (side_nil (by kernel_rfl)) ?_
      refine e_fl rfl rfl (fun hs_ => PF.mk rfl (v_extract rfl rfl) hs_) ?_
      refine e_fl rfl rfl (fun hs_ => PF.mk rfl (v_extract rfl rfl) hs_) ?_
      refine e_eff rfl (by intro cs b hc; cases hc) (by intro c hc; cases hc) ?_
      refine op_v (v_assign rfl) rfl ?_
      refine ops_nil ?_
      refine e_next rfl (side_nil (by kernel_rfl)) ?_
      refine e_eff rfl (by intro cs b hc; cases hc) (by intro c hc; cases hc) ?_
      refine op_v (v_assign rfl) rfl ?_
      refine ops_nil ?_
      refine e_next rfl (side_nil (by kernel_rfl)) ?_
      refine e_done ?_
      refine post_next ?_
      refine code_ret ?_
      refine post_ret (rs := [.tmp 6, .tmp 7]) rfl (List.Perm.refl _) (.cons (.tmp rfl) (.cons (.tmp rfl) .nil)) (List.nil_sublist _) ?_
      exact ⟨by rw [e, if_pos rfl]; rfl, rfl⟩
def a9 : T := .mk 1 []
def A9 : Li := ⟨false, a9, fx8⟩
def B9 : Li := ⟨false, fx8, a9⟩
theorem g9 : litG gs8 A9 = 0 := by decide +kernel
theorem o9 : or2 gs8 A9 = B9 := by unfold or2; rw [if_pos (show stT gs8 A9.l A9.r = -1 by decide +kernel)]; rfl
theorem s9 : sameL A9 B9 = true := by decide +kernel
theorem x9 : exactL B9 B9 = true := by decide +kernel
end Go.Proofs.Ytdbadicpbmndbaa
/- Walks: a clause's variables; two clauses side by side; the example of the chapter on clauses. -/
set_option linter.unusedVariables false
set_option linter.unusedSimpArgs false
set_option linter.unnecessarySimpa false
/- short -/
namespace Go.Proofs.Ytdbadicpbmndbaa
open Go Lg

theorem varsGo_take (ts : List T) (k : Nat) (h : k < ts.length) : varsGo [] (ts.take (k + 1)) = uniL (varsGo [] (ts.take k)) (varsP (partsT 1 ts[k])) := by
  unfold varsGo; rw [List.take_succ_eq_append_getElem h, List.foldl_append]; rfl
theorem uniL_take (acc l : List Int) (j : Nat) (h : j < l.length) : uniL acc (l.take (j + 1)) = addN (uniL acc (l.take j)) l[j] := by
  rw [List.take_succ_eq_append_getElem h, uniL_app]; rfl
theorem varsGo_len : ∀ (ts : List T) (acc : List Int), (varsGo acc ts).length ≤ acc.length + sizeL ts
  | [], acc => by simp [varsGo, sizeL]
  | t :: r, acc => by
    have h1 := uniL_len acc (varsP (partsT 1 t))
    have h2 := varsP_len (partsT 1 t)
    have h3 := varsGo_len r (uniL acc (varsP (partsT 1 t)))
    rw [partsT_length] at h2
    show (varsGo (uniL acc (varsP (partsT 1 t))) r).length ≤ _
    simp only [sizeL]; omega
theorem CVars_does {I : Imm} {v : Value} {c : List Li} (hv : RepC I v c) (hbig : sizeL (sidesL c) ≤ 100000) :
    Does Try.prog 44 [v] I [] (fun v I' δ' => RInts I' v (varsC c) ∧ δ' = []) := by
  obtain ⟨ts, hts⟩ : ∃ ts, ts = sidesL c := ⟨_, rfl⟩
  have hvc : varsC c = varsGo [] ts := by rw [hts]; rfl
  rw [← hts] at hbig
  have hvl := varsGo_len ts []
  rw [List.length_nil, Nat.zero_add] at hvl
  refine Does.intro Try.func44 rfl Try.ntmps44 rfl fun w0 => ?_
  refine code_seq ?_
  refine code_region ?_
  refine op_v (v_assign rfl) rfl ?_
  refine ops_nil ?_
  refine post_next ?_
  refine code_seq ?_
  refine code_region ?_
  refine op_v (v_assign rfl) rfl ?_
  refine ops_nil ?_
  refine post_next ?_
  refine code_seq ?_
  refine code_seq ?_
  refine code_region ?_
  refine op_v (v_move rfl) rfl ?_
  refine op_call pl85 rfl rfl ((Cterms_does hv)) Parts.none ?_
  rintro v9 I9 _ hI9 ⟨hs9, rfl⟩
  rw [← hts] at hs9
  obtain ⟨sd, sc, zs, rfl, hc, hb, hcells, hrow⟩ := hs9.rowE
  refine op_v (v_len Try.underlying45 rfl) rfl ?_
  refine op_v (v_move rfl) rfl ?_
  refine ops_nil ?_
  refine post_next ?_
  refine code_block ?_
  refine CodeJ.view (View.nilRow 3 1) ?_
  refine code_loop (fun m σ' I' δ' => ∃ (k : Nat) (A : Option Addr) (c' : Nat), m = ts.length - k ∧ k ≤ ts.length ∧ σ' = [(3, .slice A (varsGo [] (ts.take k)).length c'), (9, .slice sd ts.length sc), (10, .int .i64 ts.length), (11, .int .i64 k)] ∧ I9.le I' ∧ δ' = [iRow A c' (varsGo [] (ts.take k))] ∧ ∀ x ∈ varsGo [] (ts.take k), InR x) ts.length [(3, .slice none 0 0), (9, .slice sd ts.length sc), (10, .int .i64 ts.length), (11, .int .i64 (0 : Nat))] ⟨0, none, 0, rfl, Nat.zero_le _, rfl, Imm.le_refl _, rfl, fun x h => by cases h⟩ ⟨rfl, rfl, rfl, rfl, trivial⟩ ?_
  rintro m _ I0 _ ⟨k, A, c', rfl, hk, rfl, hI0, rfl, hin⟩
  have hgl := varsGo_len (ts.take k) []
  rw [List.length_nil, Nat.zero_add] at hgl
  refine code_seq ?_
  refine code_region ?_
  first | refine op_v (v_cmptA rfl rfl rfl) rfl ?_ | refine op_v (v_cmpfA rfl rfl rfl) rfl ?_ | refine op_v (v_cmp rfl rfl rfl) rfl ?_
  refine ops_nil ?_
  refine post_next ?_
  refine code_seq ?_
  refine code_cond rfl (fun hc0 => ?_) (fun hc0 => ?_)
  · have hlt : k < ts.length := by simpa using hc0
    obtain ⟨vs, ⟨a, n, rfl, hr⟩, hat⟩ := hrow.cellsAt hcells hlt
    have hs1 := hat.isSome
    have hsm := sizeL_mem ts k hlt
    have hst := sizeL_take ts k hlt
    have hsd : sizeL (ts.take (k + 1)) + sizeL (ts.drop (k + 1)) = sizeL ts := by rw [← sizeL_app, List.take_append_drop]
    have hvt := varsGo_take ts k hlt
    have hpl := varsP_len (partsT 1 ts[k])
    rw [partsT_length] at hpl
    refine code_skip ?_
    refine post_next ?_
    refine code_seq ?_
    refine code_block ?_
    refine code_seq ?_
    refine code_region ?_
    first | refine op_v (v_indexA Try.underlying45 sz47 rfl rfl) rfl ?_ | refine op_v (v_indexIA Try.underlying45 sz47 rfl rfl) rfl ?_
    first | refine op_v (v_loadI0 ty47 (hat.mono hI0) rfl rfl rfl) rfl ?_ | refine op_v (v_loadI ty47 (hat.mono hI0) rfl rfl rfl) rfl ?_
    refine o_alloc z47 rfl rfl (fun b5 => ?_)
    refine o_store ty47 rfl rfl rfl rfl rfl (by repeat (first | exact Swap.here | apply Swap.there)) rfl ?_
    refine ops_nil ?_
    refine post_next ?_
    refine code_seq ?_
    refine code_region ?_
    refine op_v (v_loadA ty47 rfl rfl) rfl ?_
    refine op_call pl91 rfl rfl ((TVars_does (hr.mono hI0) (by omega))) Parts.none ?_
    rintro v16 I16 _ hI16 ⟨hv16, rfl⟩
    have hn16 := hv16.len
    obtain ⟨va, vc, rfl⟩ := hv16.shape
    refine op_v (v_len Try.underlying62 rfl) rfl ?_
    refine op_v (v_move rfl) rfl ?_
    refine ops_nil ?_
    refine post_next ?_
    refine code_block ?_
    refine CodeJ.view (View.drop Del.here) ?_
    refine code_loop (fun m σ' I' δ' => ∃ (j : Nat) (A : Option Addr) (c' : Nat), m = (varsP (partsT 1 ts[k])).length - j ∧ j ≤ (varsP (partsT 1 ts[k])).length ∧ σ' = [(3, .slice A (uniL (varsGo [] (ts.take k)) ((varsP (partsT 1 ts[k])).take j)).length c'), (9, .slice sd ts.length sc), (10, .int .i64 ts.length), (11, .int .i64 k), (16, .slice va (varsP (partsT 1 ts[k])).length vc), (17, .int .i64 (varsP (partsT 1 ts[k])).length), (18, .int .i64 j)] ∧ I16.le I' ∧ δ' = [iRow A c' (uniL (varsGo [] (ts.take k)) ((varsP (partsT 1 ts[k])).take j))] ∧ ∀ x ∈ uniL (varsGo [] (ts.take k)) ((varsP (partsT 1 ts[k])).take j), InR x) (varsP (partsT 1 ts[k])).length [(3, .slice A (varsGo [] (ts.take k)).length c'), (9, .slice sd ts.length sc), (10, .int .i64 ts.length), (11, .int .i64 k), (16, .slice va (varsP (partsT 1 ts[k])).length vc), (17, .int .i64 (varsP (partsT 1 ts[k])).length), (18, .int .i64 (0 : Nat))] ⟨0, A, c', rfl, Nat.zero_le _, rfl, Imm.le_refl _, ?_, hin⟩ ⟨rfl, rfl, rfl, rfl, rfl, rfl, rfl, trivial⟩ ?_
    · rfl
    rintro m _ I1 _ ⟨j, A, c', rfl, hj, rfl, hI1, rfl, hin2⟩
    have hul := uniL_len (varsGo [] (ts.take k)) ((varsP (partsT 1 ts[k])).take j)
    rw [List.length_take] at hul
    refine code_seq ?_
    refine code_region ?_
    first | refine op_v (v_cmptA rfl rfl rfl) rfl ?_ | refine op_v (v_cmpfA rfl rfl rfl) rfl ?_ | refine op_v (v_cmp rfl rfl rfl) rfl ?_
    refine ops_nil ?_
    refine post_next ?_
    refine code_seq ?_
    refine code_cond rfl (fun hc1 => ?_) (fun hc1 => ?_)
    · have hjl : j < (varsP (partsT 1 ts[k])).length := by simpa using hc1
      have hatj := hv16.atI j hjl
      have hs2 := hatj.isSome
      have hut := uniL_take (varsGo [] (ts.take k)) (varsP (partsT 1 ts[k])) j hjl
      have hinj := hn16.2 _ (List.getElem_mem hjl)
      refine code_skip ?_
      refine post_next ?_
      refine code_seq ?_
      refine code_block ?_
      refine code_seq ?_
      refine code_region ?_
      first | refine op_v (v_indexA Try.underlying62 sz3 rfl rfl) rfl ?_ | refine op_v (v_indexIA Try.underlying62 sz3 rfl rfl) rfl ?_
      first | refine op_v (v_loadI0 ty3 (hatj.mono hI1) rfl rfl rfl) rfl ?_ | refine op_v (v_loadI ty3 (hatj.mono hI1) rfl rfl rfl) rfl ?_
      refine op_v (v_assign rfl) rfl ?_
      refine ops_nil ?_
      refine post_next ?_
      refine code_seq ?_
      refine code_region ?_
      refine op_v (v_move rfl) rfl ?_
      refine op_v (v_move rfl) rfl ?_
      refine op_call pl92 rfl rfl ((Contains_does (by omega))) (Parts.one Del.here) ?_
      rintro v24 I24 _ hI24 ⟨rfl, rfl⟩
      by_cases hm : (varsP (partsT 1 ts[k]))[j] ∈ uniL (varsGo [] (ts.take k)) ((varsP (partsT 1 ts[k])).take j)
      · rw [decide_eq_true hm]
        have hae : addN (uniL (varsGo [] (ts.take k)) ((varsP (partsT 1 ts[k])).take j)) (varsP (partsT 1 ts[k]))[j] = uniL (varsGo [] (ts.take k)) ((varsP (partsT 1 ts[k])).take j) := if_pos hm
        rw [hae] at hut
        refine op_v (v_not rfl) rfl ?_
        refine ops_nil ?_
        refine post_next ?_
        refine code_cond_f rfl ?_
        refine code_skip ?_
        refine post_out ?_
        refine post_next ?_
        refine code_region ?_
        first | refine op_v (v_addb rfl rfl rfl (by omega)) rfl ?_ | refine op_v (v_add rfl rfl) rfl ?_
        refine op_v (v_move rfl) rfl ?_
        refine ops_nil ?_
        refine post_again ((varsP (partsT 1 ts[k])).length - (j + 1)) [(3, .slice A (uniL (varsGo [] (ts.take k)) ((varsP (partsT 1 ts[k])).take j)).length c'), (9, .slice sd ts.length sc), (10, .int .i64 ts.length), (11, .int .i64 k), (16, .slice va (varsP (partsT 1 ts[k])).length vc), (17, .int .i64 (varsP (partsT 1 ts[k])).length), (18, .int .i64 (j + 1 : Nat))] (by omega) ⟨j + 1, A, c', rfl, hjl, by rw [hut], Imm.leA, by rw [hut]; rfl, by rw [hut]; exact hin2⟩ ⟨rfl, rfl, rfl, rfl, rfl, rfl, rfl, trivial⟩
      · rw [decide_eq_false hm]
        have hae : addN (uniL (varsGo [] (ts.take k)) ((varsP (partsT 1 ts[k])).take j)) (varsP (partsT 1 ts[k]))[j] = uniL (varsGo [] (ts.take k)) ((varsP (partsT 1 ts[k])).take j) ++ [(varsP (partsT 1 ts[k]))[j]] := if_neg hm
        rw [hae] at hut
        refine op_v (v_not rfl) rfl ?_
        refine ops_nil ?_
        refine post_next ?_
        refine code_cond_t rfl ?_
        refine code_region ?_
        refine op_v (v_move rfl) rfl ?_
        refine op_v (v_move rfl) rfl ?_
        refine o_buildSlice (xs := [(Go.Operand.tmp 27)]) Try.underlying62 bs3 rfl rfl rfl rfl rfl (fun b28 => ?_)
        refine o_append Try.underlying62 bs3 rfl rfl rfl (fun v' => by repeat (first | exact Swap.here | apply Swap.there)) (Src.ofRow (by repeat (first | exact Has.here | apply Has.there)) rfl) (by first | rfl | omega | simp) (by simp [cat, cellsL, Value.oneCell']) (by omega) (by omega) (fun a29 c29 => ?_)
        refine op_v (v_assign rfl) rfl ?_
        refine ops_nil ?_
        refine post_out ?_
        refine post_next ?_
        refine code_region ?_
        first | refine op_v (v_addb rfl rfl rfl (by omega)) rfl ?_ | refine op_v (v_add rfl rfl) rfl ?_
        refine op_v (v_move rfl) rfl ?_
        refine ops_nil ?_
        refine PostJ.view (View.drop Del.here) ?_
        refine post_again ((varsP (partsT 1 ts[k])).length - (j + 1)) [(3, .slice a29 ((uniL (varsGo [] (ts.take k)) ((varsP (partsT 1 ts[k])).take j)).length + 1) c29), (9, .slice sd ts.length sc), (10, .int .i64 ts.length), (11, .int .i64 k), (16, .slice va (varsP (partsT 1 ts[k])).length vc), (17, .int .i64 (varsP (partsT 1 ts[k])).length), (18, .int .i64 (j + 1 : Nat))] (by omega) ⟨j + 1, a29, c29, rfl, hjl, by rw [hut]; simp, Imm.leA, by rw [hut]; simp [iRow, cat, cellsL], by rw [hut]; intro x hx; rcases List.mem_append.1 hx with h | h; exact hin2 x h; simp at h; subst h; exact hinj⟩ ⟨rfl, rfl, rfl, rfl, rfl, rfl, rfl, trivial⟩
    · have hjg : j = (varsP (partsT 1 ts[k])).length := by simp at hc1; omega
      subst hjg
      rw [List.take_length, ← hvt] at hin2
      rw [List.take_length, ← hvt]
      refine code_exit ?_
      refine post_exit_then ?_
      refine post_exit_then ?_
      refine post_exit ?_
      refine post_out ?_
      refine post_next ?_
      refine code_region ?_
      first | refine op_v (v_addb rfl rfl rfl (by omega)) rfl ?_ | refine op_v (v_add rfl rfl) rfl ?_
      refine op_v (v_move rfl) rfl ?_
      refine ops_nil ?_
      refine post_again (ts.length - (k + 1)) [(3, .slice A (varsGo [] (ts.take (k + 1))).length c'), (9, .slice sd ts.length sc), (10, .int .i64 ts.length), (11, .int .i64 (k + 1 : Nat))] (by omega) ⟨k + 1, A, c', rfl, hlt, rfl, Imm.leA, rfl, hin2⟩ ⟨rfl, rfl, rfl, rfl, trivial⟩
  · have hge : k = ts.length := by simp at hc0; omega
    subst hge
    rw [List.take_length] at hin hgl
    rw [List.take_length]
    refine code_exit ?_
    refine post_exit_then ?_
    refine post_exit_then ?_
    refine post_exit ?_
    refine post_next ?_
    refine code_seq ?_
    refine code_region ?_
    refine OpsJ.freezeRow Del.here ?_
    rintro I32 a32 c32 hI32 hq hc32 hl32 hcells32
    cases hq
    refine op_v (v_move rfl) rfl ?_
    refine op_v (v_assign rfl) rfl ?_
    refine ops_nil ?_
    refine post_next ?_
    refine code_ret ?_
    refine post_ret (rs := [.tmp 2]) rfl (List.Perm.refl _) (.cons (.tmp rfl) .nil) (List.nil_sublist _) ?_
    exact ⟨by rw [hvc]; exact RInts.of rfl hc32 (by omega) hcells32 hin, rfl⟩
theorem Exact10_does {I : Imm} {va vb : Value} {c d : List Li} (ha : RepC I va c) (hb : RepC I vb d) (hs : SmC c) (ht : SmC d) :
    Does Try.prog 34 [va, vb] I [] (fun v I' δ' => v = .bool (decide (c = d)) ∧ δ' = []) := by
  obtain ⟨ad, c0, xs, rfl, hc, hcb, hcells, hrow⟩ := ha
  obtain ⟨bd, d0, ys, rfl, hd, hdb, hcells2, hrow2⟩ := hb
  refine Does.intro Try.func34 rfl Try.ntmps34 rfl fun w0 => ?_
  refine code_seq ?_
  refine code_region ?_
  refine op_v (v_assign rfl) rfl ?_
  refine ops_nil ?_
  refine post_next ?_
  refine code_seq ?_
  refine code_seq ?_
  refine code_region ?_
  refine op_v (v_move rfl) rfl ?_
  refine op_v (v_len Try.underlying26 rfl) rfl ?_
  refine op_v (v_move rfl) rfl ?_
  refine op_v (v_len Try.underlying26 rfl) rfl ?_
  by_cases h10 : c.length ≠ d.length
  · first | refine op_v (v_cmptA rfl rfl rfl) rfl ?_ | refine op_v (v_cmpfA rfl rfl rfl) rfl ?_ | refine op_v (v_cmp rfl rfl rfl) rfl ?_
    refine ops_nil ?_
    refine post_next ?_
    refine code_cond_t rfl ?_
    refine code_seq ?_
    refine code_region ?_
    refine op_v (v_assign rfl) rfl ?_
    refine ops_nil ?_
    refine post_next ?_
    refine code_ret ?_
    refine post_ret_then ?_
    refine post_ret (rs := [.tmp 4]) rfl (List.Perm.refl _) (.cons (.tmp rfl) .nil) (List.nil_sublist _) ?_
    exact ⟨by rw [show decide (c = d) = false from decide_eq_false fun e => h10 (by rw [e])]; rfl, rfl⟩
  · have hlen : c.length = d.length := Classical.not_not.1 h10
    first | refine op_v (v_cmptA rfl rfl rfl) rfl ?_ | refine op_v (v_cmpfA rfl rfl rfl) rfl ?_ | refine op_v (v_cmp rfl rfl rfl) rfl ?_
    refine ops_nil ?_
    refine post_next ?_
    refine code_cond_f rfl ?_
    refine code_skip ?_
    refine post_next ?_
    refine code_seq ?_
    refine code_seq ?_
    refine code_region ?_
    refine op_v (v_assign rfl) rfl ?_
    refine ops_nil ?_
    refine post_next ?_
    refine code_block ?_
    refine code_loop (fun m σ' I' δ' => ∃ k : Nat, m = c.length - k ∧ k ≤ c.length ∧ σ' = [(0, .slice ad c.length c0), (1, .slice bd d.length d0), (5, .int .i64 k)] ∧ I.le I' ∧ δ' = [] ∧ c.take k = d.take k) c.length [(0, .slice ad c.length c0), (1, .slice bd d.length d0), (5, .int .i64 (0 : Nat))] ⟨0, rfl, Nat.zero_le _, rfl, Imm.le_refl _, rfl, rfl⟩ ⟨rfl, rfl, rfl, trivial⟩ ?_
    rintro m _ I0 _ ⟨k, rfl, hk, rfl, hI0, rfl, hp⟩
    refine code_seq ?_
    refine code_seq ?_
    refine code_region ?_
    refine op_v (v_move rfl) rfl ?_
    refine op_v (v_move rfl) rfl ?_
    refine op_v (v_len Try.underlying26 rfl) rfl ?_
    first | refine op_v (v_cmptA rfl rfl rfl) rfl ?_ | refine op_v (v_cmpfA rfl rfl rfl) rfl ?_ | refine op_v (v_cmp rfl rfl rfl) rfl ?_
    refine ops_nil ?_
    refine post_next ?_
    refine code_cond rfl (fun hc1 => ?_) (fun hc1 => ?_)
    · have hlt : k < c.length := by simpa using hc1
      have hlt2 : k < d.length := by omega
      obtain ⟨vs, ⟨la, lc, ra, rc, rfl, hl, hr⟩, hat⟩ := hrow.cellsAt hcells hlt
      obtain ⟨ws, ⟨ma, mc, na, nc, rfl, hml, hmr⟩, hat2⟩ := hrow2.cellsAt hcells2 hlt2
      have hs1 := hat.isSome
      have hs2 := hat2.isSome
      refine code_skip ?_
      refine post_next ?_
      refine code_seq ?_
      refine code_block ?_
      refine code_seq ?_
      refine code_draw (.fl 0 (.fl 1 (.fl 2 (.fl 3 (.fl 4 (.fl 5 (.fl 6 (.fl 7 (.ef 8 (.fl 9 .done)))))))))) (fun _ => _) mixed (by kernel_rfl) (by kernel_rfl) (fun _ => (List.Sublist.refl _)) ?_
      refine e_fl rfl rfl (fun hs_ => PF.mk rfl (v_move rfl) hs_) ?_
      refine e_fl rfl rfl (fun hs_ => PF.mk rfl (v_move rfl) hs_) ?_
      first | refine e_fl rfl rfl (fun hs_ => PF.mk rfl (v_indexA Try.underlying26 sz49 rfl rfl) hs_) ?_ | refine e_fl rfl rfl (fun hs_ => PF.mk rfl (v_indexIA Try.underlying26 sz49 rfl rfl) hs_) ?_
      first | refine e_fl rfl rfl (fun hs_ => PF.mk rfl (v_loadI0 ty49 (hat.mono hI0) rfl rfl rfl) hs_) ?_ | refine e_fl rfl rfl (fun hs_ => PF.mk rfl (v_loadI ty49 (hat.mono hI0) rfl rfl rfl) hs_) ?_
      refine e_fl rfl rfl (fun hs_ => PF.mk rfl (v_move rfl) hs_) ?_
      refine e_fl rfl rfl (fun hs_ => PF.mk rfl (v_move rfl) hs_) ?_
      first | refine e_fl rfl rfl (fun hs_ => PF.mk rfl (v_indexA Try.underlying26 sz49 rfl rfl) hs_) ?_ | refine e_fl rfl rfl (fun hs_ => PF.mk rfl (v_indexIA Try.underlying26 sz49 rfl rfl) hs_) ?_
      first | refine e_fl rfl rfl (fun hs_ => PF.mk rfl (v_loadI0 ty49 (hat2.mono hI0) rfl rfl rfl) hs_) ?_ | refine e_fl rfl rfl (fun hs_ => PF.mk rfl (v_loadI ty49 (hat2.mono hI0) rfl rfl rfl) hs_) ?_
      refine e_eff rfl (by intro cs b hc; cases hc) (by intro c hc; cases hc) ?_
      refine op_call pl30 rfl rfl ((Exact_does (x := c[k]) (y := d[k]) ⟨la, lc, ra, rc, rfl, hl.mono Imm.leA, hr.mono Imm.leA⟩ ⟨ma, mc, na, nc, rfl, hml.mono Imm.leA, hmr.mono Imm.leA⟩ (hs.at hlt).1 (hs.at hlt).2 (ht.at hlt2).1 (ht.at hlt2).2)) Parts.none ?_
      rintro v25 I25 _ hI25 ⟨rfl, rfl⟩
      refine ops_nil ?_
      refine e_next rfl side_allA ?_
      by_cases h26 : c[k] = d[k]
      · rw [exactL_iff.2 h26]
        refine e_fl rfl rfl (fun hs_ => PF.mk rfl (v_not rfl) hs_) ?_
        refine e_done ?_
        refine post_next ?_
        refine code_cond_f rfl ?_
        refine code_skip ?_
        refine post_out ?_
        refine post_next ?_
        refine code_region ?_
        refine op_v (v_move rfl) rfl ?_
        first | refine op_v (v_addb rfl rfl rfl (by omega)) rfl ?_ | refine op_v (v_add rfl rfl) rfl ?_
        refine op_v (v_assign rfl) rfl ?_
        refine ops_nil ?_
        refine post_again (c.length - (k + 1)) [(0, .slice ad c.length c0), (1, .slice bd d.length d0), (5, .int .i64 (k + 1 : Nat))] (by omega) ⟨k + 1, rfl, hlt, rfl, Imm.leA, rfl, by rw [List.take_succ_eq_append_getElem hlt, List.take_succ_eq_append_getElem hlt2, hp, h26]⟩ ⟨rfl, rfl, rfl, trivial⟩
      · rw [show exactL c[k] d[k] = false from by cases h : exactL c[k] d[k]; rfl; exact absurd (exactL_iff.1 h) h26]
        refine e_fl rfl rfl (fun hs_ => PF.mk rfl (v_not rfl) hs_) ?_
        refine e_done ?_
        refine post_next ?_
        refine code_cond_t rfl ?_
        refine code_seq ?_
        refine code_region ?_
        refine op_v (v_assign rfl) rfl ?_
        refine ops_nil ?_
        refine post_next ?_
        refine code_ret ?_
        refine post_ret_block ?_
        refine post_ret_then ?_
        refine post_ret_then ?_
        refine post_ret_block ?_
        refine post_ret_then ?_
        refine post_ret (rs := [.tmp 4]) rfl (List.Perm.refl _) (.cons (.tmp rfl) .nil) (List.nil_sublist _) ?_
        exact ⟨by rw [show decide (c = d) = false from decide_eq_false fun e => h26 (by subst e; rfl)]; rfl, rfl⟩
    · have hge : k = c.length := by simp at hc1; omega
      rw [hge, List.take_length, hlen, List.take_length] at hp
      refine code_exit ?_
      refine post_exit_then ?_
      refine post_exit_then ?_
      refine post_exit ?_
      refine post_next ?_
      refine code_seq ?_
      refine code_region ?_
      refine op_v (v_assign rfl) rfl ?_
      refine ops_nil ?_
      refine post_next ?_
      refine code_ret ?_
      refine post_ret (rs := [.tmp 4]) rfl (List.Perm.refl _) (.cons (.tmp rfl) .nil) (List.nil_sublist _) ?_
      exact ⟨by rw [decide_eq_true hp]; rfl, rfl⟩
theorem toy10_does (I : Imm) : Does Try.prog 80 [] I [] (fun v I' δ' => RepG I' v gs8 ∧ δ' = []) := by
  refine Does.intro Try.func80 rfl Try.ntmps80 rfl fun w0 => ?_
  refine code_seq ?_
  refine code_region ?_
  refine op_v (v_assign rfl) rfl ?_
  refine ops_nil ?_
  refine post_next ?_
  refine code_seq ?_
  refine code_region ?_
  refine op_v (v_build bl79 rfl rfl) rfl ?_
  refine op_v (v_build bl79 rfl rfl) rfl ?_
  refine op_v (v_build bl79 rfl rfl) rfl ?_
  refine o_buildSlice (xs := [(Go.Operand.tmp 1), (Go.Operand.tmp 2), (Go.Operand.tmp 3)]) Try.underlying22 bs79 rfl rfl rfl rfl rfl (fun b4 => ?_)
  refine OpsJ.freezeRow Del.here ?_
  rintro I4 a4 c4 hI4 hq hc4 hl4 hcells4
  cases hq
  have hg : RepG I4 _ gs8 := RepG.of (gs := gs8) hcells4 rfl rfl hc4 (by decide) (by intro s hs; simp [gs8, truthS] at hs; rcases hs with rfl | rfl | rfl <;> exact ⟨by unfold InR; simp, by unfold InR; simp, by simp [ByteArray.size, maxLen]⟩)
  refine op_v (v_assign rfl) rfl ?_
  refine ops_nil ?_
  refine post_next ?_
  refine code_ret ?_
  refine post_ret (rs := [.tmp 0]) rfl (List.Perm.refl _) (.cons (.tmp rfl) .nil) (List.nil_sublist _) ?_
  exact ⟨hg, rfl⟩
def xv10 : T := .mk (-4) []
def fx10 : T := .mk 2 [xv10]
def A10 : Li := ⟨false, a9, fx10⟩
def N10 : Li := ⟨true, xv10, xv10⟩
def B10 : Li := ⟨false, fx10, a9⟩
def c10 : List Li := [A10, N10, B10]
def n10 : List Li := [⟨false, a9, .mk 2 [.mk (-1) []]⟩, ⟨true, .mk (-1) [], .mk (-1) []⟩, ⟨false, .mk 2 [.mk (-1) []], a9⟩]
def E10 : List Li := [⟨false, a9, a9⟩]
theorem c10_bad : (sidesL c10).any badT = false := by decide +kernel
theorem c10_norm : normC c10 = n10 := by decide +kernel
theorem c10_tidy : tidyL c10 = [A10] := by decide +kernel
theorem n10_vars : varsC n10 = [0] := by decide +kernel
theorem c10_chk : chkC gs8 c10 = 0 := by decide +kernel
theorem E10_taut : tautL E10 = true := by decide +kernel
theorem c10_sm : SmC c10 := by unfold SmC; decide +kernel
theorem E10_sm : SmC E10 := by unfold SmC; decide +kernel
theorem c10_big : sizeL (sidesL c10) ≤ 100000 := by decide +kernel
theorem n10_big : sizeL (sidesL n10) ≤ 100000 := by decide +kernel
theorem awake10_does (I : Imm) :
    Does Try.prog 33 [] I [] (fun v I' δ' => v = .bool true ∧ δ' = []) := by
  refine Does.intro Try.func33 rfl Try.ntmps33 rfl fun w0 => ?_
  refine code_seq ?_
  refine code_region ?_
  refine op_v (v_assign rfl) rfl ?_
  refine ops_nil ?_
  refine post_next ?_
  refine code_seq ?_
  refine code_region ?_
  refine op_call pl62 rfl rfl ((Fun_does (by unfold InR; omega) (RepS.nil _))) Parts.none ?_
  rintro v7 I7 _ hI7 ⟨hv7, rfl⟩
  change RepT I7 v7 a9 at hv7
  obtain ⟨a7, c7, rfl, _⟩ := hv7.shape
  refine o_alloc z47 rfl rfl (fun b1 => ?_)
  refine o_store ty47 rfl rfl rfl rfl rfl (by repeat (first | exact Swap.here | apply Swap.there)) rfl ?_
  refine ops_nil ?_
  refine post_next ?_
  refine code_seq ?_
  refine code_region ?_
  refine op_call pl61 rfl rfl ((Var_does (by omega) (by omega))) Parts.none ?_
  rintro v8 I8 _ hI8 ⟨hv8, rfl⟩
  change RepT I8 v8 xv10 at hv8
  obtain ⟨a8, c8, rfl, _⟩ := hv8.shape
  refine o_alloc z47 rfl rfl (fun b2 => ?_)
  refine o_store ty47 rfl rfl rfl rfl rfl (by repeat (first | exact Swap.here | apply Swap.there)) rfl ?_
  refine ops_nil ?_
  refine post_next ?_
  refine code_seq_meet (fun σ' I' δ' => ∃ (b1' b2' b3' : Nat) (fa : Option Addr) (fc : Nat), σ' = [(1, .pointer (some ⟨b1', 0, none⟩)), (2, .pointer (some ⟨b2', 0, none⟩)), (3, .pointer (some ⟨b3', 0, none⟩))] ∧ I8.le I' ∧ RepT I' (.agg #[.int .i64 fx10.head, .slice fa fx10.args.length fc]) fx10 ∧ δ' = [.box b3' 49 (liC A10 a7 c7 fa fc), .box b2' 47 [.int .i64 xv10.head, .slice a8 xv10.args.length c8], .box b1' 47 [.int .i64 a9.head, .slice a7 a9.args.length c7]]) ?_ ?_
  · refine code_draw (.fl 0 (.fl 1 (.two 2 5 (.two 3 5 (.fl 4 (.ef 5 (.ef 6 .done))) (.ef 3 (.fl 4 (.ef 6 .done)))) (.ef 2 (.ef 3 (.fl 4 (.ef 6 .done))))))) (fun _ => _) mixed (by kernel_rfl) (by kernel_rfl) (fun _ => (List.Sublist.refl _)) ?_
    refine e_fl rfl rfl (fun hs_ => PF.mk rfl (v_loadA ty47 rfl rfl) hs_) ?_
    refine e_fl rfl rfl (fun hs_ => PF.mk rfl (v_loadA ty47 rfl rfl) hs_) ?_
    refine e_two rfl (by intro cs b hc; cases hc) (by intro c hc; cases hc) rfl (by intro cs b hc; cases hc) (by intro c hc; cases hc) ?_ ?_
    · refine o_buildSlice (xs := [(Go.Operand.tmp 10)]) Try.underlying45 bs47 rfl rfl rfl rfl rfl (fun b11 => ?_)
      refine OpsJ.freezeRow Del.here ?_
      rintro I11 a11 c11 hI11 hq hc11 hl11 hcells11
      cases hq
      refine ops_nil ?_
      refine e_next rfl side_allA ?_
      refine e_two rfl (by intro cs b hc; cases hc) (by intro c hc; cases hc) rfl (by intro cs b hc; cases hc) (by intro c hc; cases hc) ?_ ?_
      · refine op_call pl62 rfl rfl ((Fun_does (by unfold InR; omega) (RowT.repS (ts := [xv10]) rfl (hcells11.mono Imm.leA) (RowT.one (hv8.mono Imm.leA)) hc11 (by omega)))) Parts.none ?_
        rintro v12 I12 _ hI12 ⟨hv12, rfl⟩
        change RepT I12 v12 fx10 at hv12
        obtain ⟨a12, c12, rfl, _⟩ := hv12.shape
        refine ops_nil ?_
        refine e_next rfl side_allA ?_
        refine e_fl rfl rfl (fun hs_ => PF.mk rfl (v_build (cs := liC A10 a7 c7 a12 c12) bl49 rfl rfl) hs_) ?_
        refine e_eff rfl (by intro cs b hc; cases hc) (by intro c hc; cases hc) ?_
        refine o_alloc z49 rfl rfl (fun b3 => ?_)
        refine ops_nil ?_
        refine e_next rfl side_allA ?_
        refine e_eff rfl (by intro cs b hc; cases hc) (by intro c hc; cases hc) ?_
        refine o_store ty49 rfl rfl rfl rfl rfl (by repeat (first | exact Swap.here | apply Swap.there)) rfl ?_
        refine ops_nil ?_
        refine e_next_ (side_nil (by kernel_rfl)) ?_
        refine e_done ?_
        exact post_meet _ ⟨b1, b2, b3, a12, c12, rfl, Imm.leA, hv12.mono Imm.leA, rfl⟩ ⟨rfl, rfl, rfl, trivial⟩
      · refine o_alloc z49 rfl rfl (fun b3 => ?_)
        refine ops_nil ?_
        refine e_next rfl side_allA ?_
        refine e_eff rfl (by intro cs b hc; cases hc) (by intro c hc; cases hc) ?_
        refine op_call pl62 rfl rfl ((Fun_does (by unfold InR; omega) (RowT.repS (ts := [xv10]) rfl (hcells11.mono Imm.leA) (RowT.one (hv8.mono Imm.leA)) hc11 (by omega)))) Parts.none ?_
        rintro v12 I12 _ hI12 ⟨hv12, rfl⟩
        change RepT I12 v12 fx10 at hv12
        obtain ⟨a12, c12, rfl, _⟩ := hv12.shape
        refine ops_nil ?_
        refine e_next rfl side_allA ?_
        refine e_fl rfl rfl (fun hs_ => PF.mk rfl (v_build (cs := liC A10 a7 c7 a12 c12) bl49 rfl rfl) hs_) ?_
        refine e_eff rfl (by intro cs b hc; cases hc) (by intro c hc; cases hc) ?_
        refine o_store ty49 rfl rfl rfl rfl rfl (by repeat (first | exact Swap.here | apply Swap.there)) rfl ?_
        refine ops_nil ?_
        refine e_next_ (side_nil (by kernel_rfl)) ?_
        refine e_done ?_
        exact post_meet _ ⟨b1, b2, b3, a12, c12, rfl, Imm.leA, hv12.mono Imm.leA, rfl⟩ ⟨rfl, rfl, rfl, trivial⟩
    · refine o_alloc z49 rfl rfl (fun b3 => ?_)
      refine ops_nil ?_
      refine e_next rfl side_allA ?_
      refine e_eff rfl (by intro cs b hc; cases hc) (by intro c hc; cases hc) ?_
      refine o_buildSlice (xs := [(Go.Operand.tmp 10)]) Try.underlying45 bs47 rfl rfl rfl rfl rfl (fun b11 => ?_)
      refine OpsJ.freezeRow Del.here ?_
      rintro I11 a11 c11 hI11 hq hc11 hl11 hcells11
      cases hq
      refine ops_nil ?_
      refine e_next rfl side_allA ?_
      refine e_eff rfl (by intro cs b hc; cases hc) (by intro c hc; cases hc) ?_
      refine op_call pl62 rfl rfl ((Fun_does (by unfold InR; omega) (RowT.repS (ts := [xv10]) rfl (hcells11.mono Imm.leA) (RowT.one (hv8.mono Imm.leA)) hc11 (by omega)))) Parts.none ?_
      rintro v12 I12 _ hI12 ⟨hv12, rfl⟩
      change RepT I12 v12 fx10 at hv12
      obtain ⟨a12, c12, rfl, _⟩ := hv12.shape
      refine ops_nil ?_
      refine e_next rfl side_allA ?_
      refine e_fl rfl rfl (fun hs_ => PF.mk rfl (v_build (cs := liC A10 a7 c7 a12 c12) bl49 rfl rfl) hs_) ?_
      refine e_eff rfl (by intro cs b hc; cases hc) (by intro c hc; cases hc) ?_
      refine o_store ty49 rfl rfl rfl rfl rfl (by repeat (first | exact Swap.here | apply Swap.there)) rfl ?_
      refine ops_nil ?_
      refine e_next_ (side_nil (by kernel_rfl)) ?_
      refine e_done ?_
      exact post_meet _ ⟨b1, b2, b3, a12, c12, rfl, Imm.leA, hv12.mono Imm.leA, rfl⟩ ⟨rfl, rfl, rfl, trivial⟩
  · rintro _ I3 _ ⟨b1, b2, b3, fa, fc, rfl, hI3, hfx, rfl⟩
    have hA : RepL I3 (.agg (liC A10 a7 c7 fa fc).toArray) A10 := ⟨a7, c7, fa, fc, rfl, hv7.mono Imm.leA, hfx⟩
    refine code_seq ?_
    refine code_draw (.fl 0 (.fl 1 (.fl 2 (.fl 3 (.fl 4 (.ef 5 (.ef 6 (.ef 7 .done)))))))) (fun _ => _) mixed (by kernel_rfl) (by kernel_rfl) (fun _ => (List.Sublist.refl _)) ?_
    refine e_fl rfl rfl (fun hs_ => PF.mk rfl (v_loadA ty49 rfl rfl) hs_) ?_
    refine e_fl rfl rfl (fun hs_ => PF.mk rfl (v_loadA ty47 rfl rfl) hs_) ?_
    refine e_fl rfl rfl (fun hs_ => PF.mk rfl (v_loadA ty47 rfl rfl) hs_) ?_
    refine e_fl rfl rfl (fun hs_ => PF.mk rfl (v_build (cs := liC N10 a8 c8 a8 c8) bl49 rfl rfl) hs_) ?_
    refine e_fl rfl rfl (fun hs_ => PF.mk rfl (v_loadA ty49 rfl rfl) hs_) ?_
    refine e_eff rfl (by intro cs b hc; cases hc) (by intro c hc; cases hc) ?_
    refine op_call pl79 rfl rfl ((Turn_does hA)) Parts.none ?_
    rintro v19 I19 _ hI19 ⟨hv19, rfl⟩
    change RepL I19 v19 B10 at hv19
    obtain ⟨ba, bc, bd, be, rfl, hbl, hbr⟩ := hv19
    refine ops_nil ?_
    refine e_next rfl side_allA ?_
    refine e_eff rfl (by intro cs b hc; cases hc) (by intro c hc; cases hc) ?_
    refine o_buildSlice (xs := [(Go.Operand.tmp 14), (Go.Operand.tmp 17), (Go.Operand.tmp 19)]) Try.underlying26 bs49 rfl rfl rfl rfl rfl (fun b20 => ?_)
    refine OpsJ.freezeRow Del.here ?_
    rintro I20 a20 c20 hI20 hq hc20 hl20 hcells20
    cases hq
    have hc10 : RepC I20 (.slice (some ⟨b20, 0, none⟩) 3 3) c10 := ⟨some ⟨b20, 0, none⟩, 3, _, rfl, Nat.le_refl _, by decide, hcells20, ⟨_, _, rfl, ⟨a7, c7, fa, fc, rfl, hv7.mono Imm.leA, hfx.mono Imm.leA⟩, _, _, rfl, ⟨a8, c8, a8, c8, rfl, hv8.mono Imm.leA, hv8.mono Imm.leA⟩, _, _, rfl, ⟨ba, bc, bd, be, rfl, hbl.mono Imm.leA, hbr.mono Imm.leA⟩, rfl⟩⟩
    refine ops_nil ?_
    refine e_next rfl side_allA ?_
    refine e_eff rfl (by intro cs b hc; cases hc) (by intro c hc; cases hc) ?_
    refine op_v (v_assign rfl) rfl ?_
    refine ops_nil ?_
    refine e_next rfl (side_nil (by kernel_rfl)) ?_
    refine e_done ?_
    refine post_next ?_
    refine code_seq ?_
    refine code_region ?_
    refine op_v (v_move rfl) rfl ?_
    refine op_call pl37 rfl rfl ((CNorm_does hc10 c10_big)) Parts.none ?_
    rintro v23 I23 _ hI23 ⟨HR23, rfl⟩
    obtain ⟨a23, c23, rfl, hn23⟩ : ∃ a k, v23 = .tuple #[.slice a c10.length k, .int .i64 0] ∧ RepC I23 (.slice a c10.length k) (normC c10) := by
      rcases HR23 with ⟨h, _⟩ | ⟨_, h⟩
      · rw [c10_bad] at h; cases h
      · exact h
    rw [c10_norm] at hn23
    refine op_v (v_move rfl) rfl ?_
    refine op_v (v_extract rfl rfl) rfl ?_
    refine op_v (v_extract rfl rfl) rfl ?_
    refine op_v (v_assign rfl) rfl ?_
    refine op_v (v_assign rfl) rfl ?_
    refine ops_nil ?_
    refine post_next ?_
    refine code_seq ?_
    refine code_region ?_
    refine op_v (v_move rfl) rfl ?_
    refine op_call pl29 rfl rfl ((CTidy_does (hc10.mono Imm.leA) c10_sm)) Parts.none ?_
    rintro v27 I27 _ hI27 ⟨ht27, rfl⟩
    rw [c10_tidy] at ht27
    obtain ⟨a27, c27, rfl⟩ := RepE.shape ht27
    refine op_v (v_len Try.underlying26 rfl) rfl ?_
    first | refine op_v (v_cmptA rfl rfl rfl) rfl ?_ | refine op_v (v_cmpfA rfl rfl rfl) rfl ?_ | refine op_v (v_cmp rfl rfl rfl) rfl ?_
    refine op_v (v_move rfl) rfl ?_
    first
      | (refine op_want rfl rfl ?_
         refine op_v (v_move rfl) rfl ?_)
      | (refine op_skip rfl rfl (by simp [undef]) rfl ?_)
    first
      | (refine op_want rfl rfl ?_
         first | refine op_v (v_cmptA rfl rfl rfl) rfl ?_ | refine op_v (v_cmpfA rfl rfl rfl) rfl ?_ | refine op_v (v_cmp rfl rfl rfl) rfl ?_)
      | (refine op_skip rfl rfl (by simp [undef]) rfl ?_)
    first | refine op_v (v_pickt rfl rfl) rfl ?_ | refine op_v (v_pickf rfl rfl) rfl ?_ | refine op_v (v_pickb rfl rfl rfl) rfl ?_
    refine op_v (v_move rfl) rfl ?_
    first
      | (refine op_want rfl rfl ?_
         refine op_v (v_move rfl) rfl ?_)
      | (refine op_skip rfl rfl (by simp [undef]) rfl ?_)
    first
      | (refine op_want rfl rfl ?_
         refine op_call pl44 rfl rfl ((CVars_does (hn23.mono Imm.leA) n10_big)) Parts.none ?_
         rintro v36 I36 _ hI36 ⟨hv36, rfl⟩
         rw [n10_vars] at hv36)
      | (refine op_skip rfl rfl (by simp [undef]) rfl ?_)
    first
      | (refine op_want rfl rfl ?_
         refine o_buildSlice (xs := [(Go.Operand.const (Go.Value.int Go.IntKind.i64 0))]) Try.underlying62 bs3 rfl rfl rfl rfl rfl (fun b37 => ?_)
         refine OpsJ.freezeRow Del.here ?_
         rintro I37 a37 c37 hI37 hq hc37 hl37 hcells37
         cases hq)
      | (refine op_skip rfl rfl (by simp [undef]) rfl ?_)
    first
      | (refine op_want rfl rfl ?_
         refine op_call pl43 rfl rfl ((Ints_does _ (hv36.mono Imm.leA) (RInts.lit (xs := [0]) hcells37 hc37 (by decide)))) Parts.none ?_
         rintro v38 I38 _ hI38 ⟨rfl, rfl⟩)
      | (refine op_skip rfl rfl (by simp [undef]) rfl ?_)
    first | refine op_v (v_pickt rfl rfl) rfl ?_ | refine op_v (v_pickf rfl rfl) rfl ?_ | refine op_v (v_pickb rfl rfl rfl) rfl ?_
    refine op_v (v_move rfl) rfl ?_
    first
      | (refine op_want rfl rfl ?_
         refine op_call pl80 rfl rfl ((toy10_does _)) Parts.none ?_
         rintro v41 I41 _ hI41 ⟨hg41, rfl⟩)
      | (refine op_skip rfl rfl (by simp [undef]) rfl ?_)
    first
      | (refine op_want rfl rfl ?_
         refine op_v (v_move rfl) rfl ?_)
      | (refine op_skip rfl rfl (by simp [undef]) rfl ?_)
    first
      | (refine op_want rfl rfl ?_
         refine op_call pl46 rfl rfl ((CCheck_does hg41 (hc10.mono Imm.leA) c10_sm)) Parts.none ?_
         rintro v43 I43 _ hI43 ⟨rfl, rfl⟩
         rw [c10_chk])
      | (refine op_skip rfl rfl (by simp [undef]) rfl ?_)
    first
      | (refine op_want rfl rfl ?_
         first | refine op_v (v_cmptA rfl rfl rfl) rfl ?_ | refine op_v (v_cmpfA rfl rfl rfl) rfl ?_ | refine op_v (v_cmp rfl rfl rfl) rfl ?_)
      | (refine op_skip rfl rfl (by simp [undef]) rfl ?_)
    first | refine op_v (v_pickt rfl rfl) rfl ?_ | refine op_v (v_pickf rfl rfl) rfl ?_ | refine op_v (v_pickb rfl rfl rfl) rfl ?_
    refine op_v (v_move rfl) rfl ?_
    first
      | (refine op_want rfl rfl ?_
         refine op_v (v_loadA ty47 rfl rfl) rfl ?_)
      | (refine op_skip rfl rfl (by simp [undef]) rfl ?_)
    first
      | (refine op_want rfl rfl ?_
         refine op_v (v_loadA ty47 rfl rfl) rfl ?_)
      | (refine op_skip rfl rfl (by simp [undef]) rfl ?_)
    first
      | (refine op_want rfl rfl ?_
         refine op_v (v_build (cs := liC ⟨false, a9, a9⟩ a7 c7 a7 c7) bl49 rfl rfl) rfl ?_)
      | (refine op_skip rfl rfl (by simp [undef]) rfl ?_)
    first
      | (refine op_want rfl rfl ?_
         refine o_buildSlice (xs := [(Go.Operand.tmp 49)]) Try.underlying26 bs49 rfl rfl rfl rfl rfl (fun b50 => ?_)
         refine OpsJ.freezeRow Del.here ?_
         rintro I50 a50 c50 hI50 hq hc50 hl50 hcells50
         cases hq
         have hE10 : RepC I50 (.slice (some ⟨b50, 0, none⟩) 1 1) E10 := ⟨some ⟨b50, 0, none⟩, 1, _, rfl, Nat.le_refl _, by decide, hcells50, ⟨_, _, rfl, ⟨a7, c7, a7, c7, rfl, hv7.mono Imm.leA, hv7.mono Imm.leA⟩, rfl⟩⟩)
      | (refine op_skip rfl rfl (by simp [undef]) rfl ?_)
    first
      | (refine op_want rfl rfl ?_
         refine op_call pl81 rfl rfl ((CTaut_does hE10 E10_sm)) Parts.none ?_
         rintro v51 I51 _ hI51 ⟨rfl, rfl⟩
         rw [E10_taut])
      | (refine op_skip rfl rfl (by simp [undef]) rfl ?_)
    first | refine op_v (v_pickt rfl rfl) rfl ?_ | refine op_v (v_pickf rfl rfl) rfl ?_ | refine op_v (v_pickb rfl rfl rfl) rfl ?_
    refine op_v (v_assign rfl) rfl ?_
    refine ops_nil ?_
    refine post_next ?_
    refine code_ret ?_
    refine post_ret (rs := [.tmp 0]) rfl (List.Perm.refl _) (.cons (.tmp rfl) .nil) (List.nil_sublist _) ?_
    exact ⟨rfl, rfl⟩
end Go.Proofs.Ytdbadicpbmndbaa
/- The order of terms, the other way round. Plain facts; no condition. -/
set_option linter.unusedVariables false
set_option linter.unusedSimpArgs false
namespace Go.Proofs.Ytdbadicpbmndbaa

theorem ordI_neg (a b : Int) : ordI b a = - ordI a b := by unfold ordI; split <;> split <;> (try split) <;> omega
mutual
theorem cmpT_neg : ∀ (a b : T), cmpT b a = - cmpT a b
  | .mk h p, .mk g q => by
    simp only [cmpT]
    by_cases h1 : 1 + sizeL p = 1 + sizeL q
    · by_cases h2 : h = g
      · by_cases h3 : p.length = q.length
        · have := cmpL_neg p q
          simp [h1, h2, h3, this]
        · have h3' : ¬ q.length = p.length := fun e => h3 e.symm
          have := ordI_neg (p.length : Int) q.length
          simp [h1, h2, h3, h3', this]
      · have h2' : ¬ g = h := fun e => h2 e.symm
        have := ordI_neg h g
        simp [h1, h2, h2', this]
    · have h1' : ¬ 1 + sizeL q = 1 + sizeL p := fun e => h1 e.symm
      have := ordI_neg ((1 + sizeL p : Nat) : Int) ((1 + sizeL q : Nat) : Int)
      simp only [h1, h1', ne_eq, not_false_eq_true, if_true, this]
theorem cmpL_neg : ∀ (a b : List T), cmpL b a = - cmpL a b
  | [], [] => by simp [cmpL]
  | [], _ :: _ => by simp [cmpL]
  | _ :: _, [] => by simp [cmpL]
  | a :: p, b :: q => by
    have h1 := cmpT_neg a b
    have h2 := cmpL_neg p q
    simp only [cmpL, h1, h2]
    by_cases h : cmpT a b = 0
    · simp [h]
    · have : - cmpT a b ≠ 0 := by omega
      simp [h, this]
end
end Go.Proofs.Ytdbadicpbmndbaa
