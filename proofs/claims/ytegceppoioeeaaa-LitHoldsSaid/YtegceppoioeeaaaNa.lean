/- Walks: literals: whether two are the same, what they are compared by. -/
import Derived.Test.YtegceppoioeeaaaZ4
set_option linter.unusedVariables false
set_option linter.unusedSimpArgs false
set_option linter.unnecessarySimpa false
/- short -/
namespace Go.Proofs.Ytegceppoioeeaaa
open Go Lg

structure Li where
  neg : Bool
  l : T
  r : T
abbrev liC (x : Li) (la : Option Addr) (lc : Nat) (ra : Option Addr) (rc : Nat) : List Value := [.bool x.neg, .int .i64 x.l.head, .slice la x.l.args.length lc, .int .i64 x.r.head, .slice ra x.r.args.length rc]
/-- a literal that is only read -/
def RepL (I : Imm) (v : Value) (x : Li) : Prop := ∃ (la : Option Addr) (lc : Nat) (ra : Option Addr) (rc : Nat), v = .agg #[.bool x.neg, .int .i64 x.l.head, .slice la x.l.args.length lc, .int .i64 x.r.head, .slice ra x.r.args.length rc] ∧ RepT I (.agg #[.int .i64 x.l.head, .slice la x.l.args.length lc]) x.l ∧ RepT I (.agg #[.int .i64 x.r.head, .slice ra x.r.args.length rc]) x.r
theorem RepL.mono {I J : Imm} {v : Value} {x : Li} (h : RepL I v x) (hl : I.le J) : RepL J v x := by
  obtain ⟨la, lc, ra, rc, h1, h2, h3⟩ := h; exact ⟨la, lc, ra, rc, h1, h2.mono hl, h3.mono hl⟩
def zeroLi : Li := ⟨false, zeroT, zeroT⟩
def eqL (x y : Li) : Bool := (decide (x.l = y.l) && decide (x.r = y.r)) || (decide (x.l = y.r) && decide (x.r = y.l))
def sameL (x y : Li) : Bool := (x.neg == y.neg) && eqL x y
def oppL (x y : Li) : Bool := (!(x.neg == y.neg)) && eqL x y
def exactL (x y : Li) : Bool := (x.neg == y.neg) && (decide (x.l = y.l) && decide (x.r = y.r))
def rowL (x : Li) : List T := if x.neg = true then [x.l, x.l, x.r, x.r] else [x.l, x.r]
def fewL (x : Li) : Bool := decide (x.l.size ≤ 500) && decide (x.r.size ≤ 500)
/-! ### walks -/
theorem equal_does {I : Imm} {va vb : Value} {x y : Li} (ha : RepL I va x) (hb : RepL I vb y) (h1 : x.l.size ≤ 1000000000) (h2 : x.r.size ≤ 1000000000) (h3 : y.l.size ≤ 1000000000) (h4 : y.r.size ≤ 1000000000) :
    Does Try.prog 59 [va, vb] I [] (fun v _ δ' => v = .bool (eqL x y) ∧ δ' = []) := by
  obtain ⟨la, lc, ra, rc, rfl, hl, hr⟩ := ha
  obtain ⟨ma, mc, na, nc, rfl, kl, kr⟩ := hb
  refine Does.intro Try.func59 rfl Try.ntmps59 rfl fun w0 => ?_
  refine code_seq ?_
  refine code_region ?_
  refine o_box rfl rfl rfl (fun b2 => ?_)
  refine o_box rfl rfl rfl (fun b3 => ?_)
  refine op_v (v_assign rfl) rfl ?_
  refine ops_nil ?_
  refine post_next ?_
  refine code_seq ?_
  refine code_region ?_
  first | refine op_v (v_fieldB 1 Try.underlying27 rfl rfl fz25 rfl) rfl ?_ | refine op_v (v_fieldI 1 Try.underlying27 rfl rfl fz25 rfl (by assumption)) rfl ?_ | refine op_v (v_field Try.underlying27 rfl fz25 rfl rfl) rfl ?_
  refine op_v (v_loadA ty25 rfl rfl) rfl ?_
  first | refine op_v (v_fieldB 1 Try.underlying27 rfl rfl fz25 rfl) rfl ?_ | refine op_v (v_fieldI 1 Try.underlying27 rfl rfl fz25 rfl (by assumption)) rfl ?_ | refine op_v (v_field Try.underlying27 rfl fz25 rfl rfl) rfl ?_
  refine op_v (v_loadA ty25 rfl rfl) rfl ?_
  refine op_call pl39 rfl rfl ((TSame_does (hl.mono Imm.leA) (kl.mono Imm.leA) h1 h3)) Parts.none ?_
  rintro _ I9 _ hI9 ⟨rfl, rfl⟩
  by_cases e1 : x.l = y.l
  · rw [show decide (x.l = y.l) = true by simpa using e1]
    refine op_v (v_move rfl) rfl ?_
    first
      | (refine op_want rfl rfl ?_
         first | refine op_v (v_fieldB 3 Try.underlying27 rfl rfl fz25 rfl) rfl ?_ | refine op_v (v_fieldI 3 Try.underlying27 rfl rfl fz25 rfl (by assumption)) rfl ?_ | refine op_v (v_field Try.underlying27 rfl fz25 rfl rfl) rfl ?_)
      | (refine op_skip rfl rfl (by simp [undef]) rfl ?_)
    first
      | (refine op_want rfl rfl ?_
         refine op_v (v_loadA ty25 rfl rfl) rfl ?_)
      | (refine op_skip rfl rfl (by simp [undef]) rfl ?_)
    first
      | (refine op_want rfl rfl ?_
         first | refine op_v (v_fieldB 3 Try.underlying27 rfl rfl fz25 rfl) rfl ?_ | refine op_v (v_fieldI 3 Try.underlying27 rfl rfl fz25 rfl (by assumption)) rfl ?_ | refine op_v (v_field Try.underlying27 rfl fz25 rfl rfl) rfl ?_)
      | (refine op_skip rfl rfl (by simp [undef]) rfl ?_)
    first
      | (refine op_want rfl rfl ?_
         refine op_v (v_loadA ty25 rfl rfl) rfl ?_)
      | (refine op_skip rfl rfl (by simp [undef]) rfl ?_)
    first
      | (refine op_want rfl rfl ?_
         refine op_call pl39 rfl rfl ((TSame_does (hr.mono Imm.leA) (kr.mono Imm.leA) h2 h4)) Parts.none ?_
         rintro _ I15 _ hI15 ⟨rfl, rfl⟩)
      | (refine op_skip rfl rfl (by simp [undef]) rfl ?_)
    by_cases e2 : x.r = y.r
    · rw [show decide (x.r = y.r) = true by simpa using e2]
      first | refine op_v (v_pickt rfl rfl) rfl ?_ | refine op_v (v_pickf rfl rfl) rfl ?_ | refine op_v (v_pickb rfl rfl rfl) rfl ?_
      refine op_v (v_move rfl) rfl ?_
      first
        | (refine op_want rfl rfl ?_
           first | refine op_v (v_fieldB 1 Try.underlying27 rfl rfl fz25 rfl) rfl ?_ | refine op_v (v_fieldI 1 Try.underlying27 rfl rfl fz25 rfl (by assumption)) rfl ?_ | refine op_v (v_field Try.underlying27 rfl fz25 rfl rfl) rfl ?_)
        | (refine op_skip rfl rfl (by simp [undef]) rfl ?_)
      first
        | (refine op_want rfl rfl ?_
           refine op_v (v_loadA ty25 rfl rfl) rfl ?_)
        | (refine op_skip rfl rfl (by simp [undef]) rfl ?_)
      first
        | (refine op_want rfl rfl ?_
           first | refine op_v (v_fieldB 3 Try.underlying27 rfl rfl fz25 rfl) rfl ?_ | refine op_v (v_fieldI 3 Try.underlying27 rfl rfl fz25 rfl (by assumption)) rfl ?_ | refine op_v (v_field Try.underlying27 rfl fz25 rfl rfl) rfl ?_)
        | (refine op_skip rfl rfl (by simp [undef]) rfl ?_)
      first
        | (refine op_want rfl rfl ?_
           refine op_v (v_loadA ty25 rfl rfl) rfl ?_)
        | (refine op_skip rfl rfl (by simp [undef]) rfl ?_)
      first
        | (refine op_want rfl rfl ?_
           refine op_call pl39 rfl rfl ((TSame_does (hl.mono Imm.leA) (kr.mono Imm.leA) h1 h4)) Parts.none ?_
           rintro _ I22 _ hI22 ⟨rfl, rfl⟩)
        | (refine op_skip rfl rfl (by simp [undef]) rfl ?_)
      first
        | (refine op_want rfl rfl ?_
           refine op_v (v_move rfl) rfl ?_)
        | (refine op_skip rfl rfl (by simp [undef]) rfl ?_)
      first
        | (refine op_want rfl rfl ?_
           first | refine op_v (v_fieldB 3 Try.underlying27 rfl rfl fz25 rfl) rfl ?_ | refine op_v (v_fieldI 3 Try.underlying27 rfl rfl fz25 rfl (by assumption)) rfl ?_ | refine op_v (v_field Try.underlying27 rfl fz25 rfl rfl) rfl ?_)
        | (refine op_skip rfl rfl (by simp [undef]) rfl ?_)
      first
        | (refine op_want rfl rfl ?_
           refine op_v (v_loadA ty25 rfl rfl) rfl ?_)
        | (refine op_skip rfl rfl (by simp [undef]) rfl ?_)
      first
        | (refine op_want rfl rfl ?_
           first | refine op_v (v_fieldB 1 Try.underlying27 rfl rfl fz25 rfl) rfl ?_ | refine op_v (v_fieldI 1 Try.underlying27 rfl rfl fz25 rfl (by assumption)) rfl ?_ | refine op_v (v_field Try.underlying27 rfl fz25 rfl rfl) rfl ?_)
        | (refine op_skip rfl rfl (by simp [undef]) rfl ?_)
      first
        | (refine op_want rfl rfl ?_
           refine op_v (v_loadA ty25 rfl rfl) rfl ?_)
        | (refine op_skip rfl rfl (by simp [undef]) rfl ?_)
      first
        | (refine op_want rfl rfl ?_
           refine op_call pl39 rfl rfl ((TSame_does (hr.mono Imm.leA) (kl.mono Imm.leA) h2 h3)) Parts.none ?_
           rintro _ I28 _ hI28 ⟨rfl, rfl⟩)
        | (refine op_skip rfl rfl (by simp [undef]) rfl ?_)
      first
        | (refine op_want rfl rfl ?_
           first | refine op_v (v_pickt rfl rfl) rfl ?_ | refine op_v (v_pickf rfl rfl) rfl ?_ | refine op_v (v_pickb rfl rfl rfl) rfl ?_)
        | (refine op_skip rfl rfl (by simp [undef]) rfl ?_)
      first | refine op_v (v_pickt rfl rfl) rfl ?_ | refine op_v (v_pickf rfl rfl) rfl ?_ | refine op_v (v_pickb rfl rfl rfl) rfl ?_
      refine op_v (v_assign rfl) rfl ?_
      refine ops_nil ?_
      refine post_next ?_
      refine code_ret ?_
      refine post_ret (rs := [.tmp 4]) rfl (List.Perm.refl _) (.cons (.tmp rfl) .nil) (List.nil_sublist _) ?_
      exact ⟨by simp [outV, eqL, e1, e2], rfl⟩
    · rw [show decide (x.r = y.r) = false by simpa using e2]
      first | refine op_v (v_pickt rfl rfl) rfl ?_ | refine op_v (v_pickf rfl rfl) rfl ?_ | refine op_v (v_pickb rfl rfl rfl) rfl ?_
      refine op_v (v_move rfl) rfl ?_
      first
        | (refine op_want rfl rfl ?_
           first | refine op_v (v_fieldB 1 Try.underlying27 rfl rfl fz25 rfl) rfl ?_ | refine op_v (v_fieldI 1 Try.underlying27 rfl rfl fz25 rfl (by assumption)) rfl ?_ | refine op_v (v_field Try.underlying27 rfl fz25 rfl rfl) rfl ?_)
        | (refine op_skip rfl rfl (by simp [undef]) rfl ?_)
      first
        | (refine op_want rfl rfl ?_
           refine op_v (v_loadA ty25 rfl rfl) rfl ?_)
        | (refine op_skip rfl rfl (by simp [undef]) rfl ?_)
      first
        | (refine op_want rfl rfl ?_
           first | refine op_v (v_fieldB 3 Try.underlying27 rfl rfl fz25 rfl) rfl ?_ | refine op_v (v_fieldI 3 Try.underlying27 rfl rfl fz25 rfl (by assumption)) rfl ?_ | refine op_v (v_field Try.underlying27 rfl fz25 rfl rfl) rfl ?_)
        | (refine op_skip rfl rfl (by simp [undef]) rfl ?_)
      first
        | (refine op_want rfl rfl ?_
           refine op_v (v_loadA ty25 rfl rfl) rfl ?_)
        | (refine op_skip rfl rfl (by simp [undef]) rfl ?_)
      first
        | (refine op_want rfl rfl ?_
           refine op_call pl39 rfl rfl ((TSame_does (hl.mono Imm.leA) (kr.mono Imm.leA) h1 h4)) Parts.none ?_
           rintro _ I22 _ hI22 ⟨rfl, rfl⟩)
        | (refine op_skip rfl rfl (by simp [undef]) rfl ?_)
      by_cases e3 : x.l = y.r
      · rw [show decide (x.l = y.r) = true by simpa using e3]
        first
          | (refine op_want rfl rfl ?_
             refine op_v (v_move rfl) rfl ?_)
          | (refine op_skip rfl rfl (by simp [undef]) rfl ?_)
        first
          | (refine op_want rfl rfl ?_
             first | refine op_v (v_fieldB 3 Try.underlying27 rfl rfl fz25 rfl) rfl ?_ | refine op_v (v_fieldI 3 Try.underlying27 rfl rfl fz25 rfl (by assumption)) rfl ?_ | refine op_v (v_field Try.underlying27 rfl fz25 rfl rfl) rfl ?_)
          | (refine op_skip rfl rfl (by simp [undef]) rfl ?_)
        first
          | (refine op_want rfl rfl ?_
             refine op_v (v_loadA ty25 rfl rfl) rfl ?_)
          | (refine op_skip rfl rfl (by simp [undef]) rfl ?_)
        first
          | (refine op_want rfl rfl ?_
             first | refine op_v (v_fieldB 1 Try.underlying27 rfl rfl fz25 rfl) rfl ?_ | refine op_v (v_fieldI 1 Try.underlying27 rfl rfl fz25 rfl (by assumption)) rfl ?_ | refine op_v (v_field Try.underlying27 rfl fz25 rfl rfl) rfl ?_)
          | (refine op_skip rfl rfl (by simp [undef]) rfl ?_)
        first
          | (refine op_want rfl rfl ?_
             refine op_v (v_loadA ty25 rfl rfl) rfl ?_)
          | (refine op_skip rfl rfl (by simp [undef]) rfl ?_)
        first
          | (refine op_want rfl rfl ?_
             refine op_call pl39 rfl rfl ((TSame_does (hr.mono Imm.leA) (kl.mono Imm.leA) h2 h3)) Parts.none ?_
             rintro _ I28 _ hI28 ⟨rfl, rfl⟩)
          | (refine op_skip rfl rfl (by simp [undef]) rfl ?_)
        first
          | (refine op_want rfl rfl ?_
             first | refine op_v (v_pickt rfl rfl) rfl ?_ | refine op_v (v_pickf rfl rfl) rfl ?_ | refine op_v (v_pickb rfl rfl rfl) rfl ?_)
          | (refine op_skip rfl rfl (by simp [undef]) rfl ?_)
        first | refine op_v (v_pickt rfl rfl) rfl ?_ | refine op_v (v_pickf rfl rfl) rfl ?_ | refine op_v (v_pickb rfl rfl rfl) rfl ?_
        refine op_v (v_assign rfl) rfl ?_
        refine ops_nil ?_
        refine post_next ?_
        refine code_ret ?_
        refine post_ret (rs := [.tmp 4]) rfl (List.Perm.refl _) (.cons (.tmp rfl) .nil) (List.nil_sublist _) ?_
        exact ⟨by unfold eqL; simp_all [outV], rfl⟩
      · rw [show decide (x.l = y.r) = false by simpa using e3]
        first
          | (refine op_want rfl rfl ?_
             refine op_v (v_move rfl) rfl ?_)
          | (refine op_skip rfl rfl (by simp [undef]) rfl ?_)
        first
          | (refine op_want rfl rfl ?_
             first | refine op_v (v_fieldB 3 Try.underlying27 rfl rfl fz25 rfl) rfl ?_ | refine op_v (v_fieldI 3 Try.underlying27 rfl rfl fz25 rfl (by assumption)) rfl ?_ | refine op_v (v_field Try.underlying27 rfl fz25 rfl rfl) rfl ?_)
          | (refine op_skip rfl rfl (by simp [undef]) rfl ?_)
        first
          | (refine op_want rfl rfl ?_
             refine op_v (v_loadA ty25 rfl rfl) rfl ?_)
          | (refine op_skip rfl rfl (by simp [undef]) rfl ?_)
        first
          | (refine op_want rfl rfl ?_
             first | refine op_v (v_fieldB 1 Try.underlying27 rfl rfl fz25 rfl) rfl ?_ | refine op_v (v_fieldI 1 Try.underlying27 rfl rfl fz25 rfl (by assumption)) rfl ?_ | refine op_v (v_field Try.underlying27 rfl fz25 rfl rfl) rfl ?_)
          | (refine op_skip rfl rfl (by simp [undef]) rfl ?_)
        first
          | (refine op_want rfl rfl ?_
             refine op_v (v_loadA ty25 rfl rfl) rfl ?_)
          | (refine op_skip rfl rfl (by simp [undef]) rfl ?_)
        first
          | (refine op_want rfl rfl ?_
             refine op_call pl39 rfl rfl ((TSame_does (hr.mono Imm.leA) (kl.mono Imm.leA) h2 h3)) Parts.none ?_
             rintro _ I28 _ hI28 ⟨rfl, rfl⟩)
          | (refine op_skip rfl rfl (by simp [undef]) rfl ?_)
        first
          | (refine op_want rfl rfl ?_
             first | refine op_v (v_pickt rfl rfl) rfl ?_ | refine op_v (v_pickf rfl rfl) rfl ?_ | refine op_v (v_pickb rfl rfl rfl) rfl ?_)
          | (refine op_skip rfl rfl (by simp [undef]) rfl ?_)
        first | refine op_v (v_pickt rfl rfl) rfl ?_ | refine op_v (v_pickf rfl rfl) rfl ?_ | refine op_v (v_pickb rfl rfl rfl) rfl ?_
        refine op_v (v_assign rfl) rfl ?_
        refine ops_nil ?_
        refine post_next ?_
        refine code_ret ?_
        refine post_ret (rs := [.tmp 4]) rfl (List.Perm.refl _) (.cons (.tmp rfl) .nil) (List.nil_sublist _) ?_
        exact ⟨by unfold eqL; simp_all [outV], rfl⟩
  · rw [show decide (x.l = y.l) = false by simpa using e1]
    refine op_v (v_move rfl) rfl ?_
    first
      | (refine op_want rfl rfl ?_
         first | refine op_v (v_fieldB 3 Try.underlying27 rfl rfl fz25 rfl) rfl ?_ | refine op_v (v_fieldI 3 Try.underlying27 rfl rfl fz25 rfl (by assumption)) rfl ?_ | refine op_v (v_field Try.underlying27 rfl fz25 rfl rfl) rfl ?_)
      | (refine op_skip rfl rfl (by simp [undef]) rfl ?_)
    first
      | (refine op_want rfl rfl ?_
         refine op_v (v_loadA ty25 rfl rfl) rfl ?_)
      | (refine op_skip rfl rfl (by simp [undef]) rfl ?_)
    first
      | (refine op_want rfl rfl ?_
         first | refine op_v (v_fieldB 3 Try.underlying27 rfl rfl fz25 rfl) rfl ?_ | refine op_v (v_fieldI 3 Try.underlying27 rfl rfl fz25 rfl (by assumption)) rfl ?_ | refine op_v (v_field Try.underlying27 rfl fz25 rfl rfl) rfl ?_)
      | (refine op_skip rfl rfl (by simp [undef]) rfl ?_)
    first
      | (refine op_want rfl rfl ?_
         refine op_v (v_loadA ty25 rfl rfl) rfl ?_)
      | (refine op_skip rfl rfl (by simp [undef]) rfl ?_)
    first
      | (refine op_want rfl rfl ?_
         refine op_call pl39 rfl rfl ((TSame_does (hr.mono Imm.leA) (kr.mono Imm.leA) h2 h4)) Parts.none ?_
         rintro _ I15 _ hI15 ⟨rfl, rfl⟩)
      | (refine op_skip rfl rfl (by simp [undef]) rfl ?_)
    first | refine op_v (v_pickt rfl rfl) rfl ?_ | refine op_v (v_pickf rfl rfl) rfl ?_ | refine op_v (v_pickb rfl rfl rfl) rfl ?_
    refine op_v (v_move rfl) rfl ?_
    first
      | (refine op_want rfl rfl ?_
         first | refine op_v (v_fieldB 1 Try.underlying27 rfl rfl fz25 rfl) rfl ?_ | refine op_v (v_fieldI 1 Try.underlying27 rfl rfl fz25 rfl (by assumption)) rfl ?_ | refine op_v (v_field Try.underlying27 rfl fz25 rfl rfl) rfl ?_)
      | (refine op_skip rfl rfl (by simp [undef]) rfl ?_)
    first
      | (refine op_want rfl rfl ?_
         refine op_v (v_loadA ty25 rfl rfl) rfl ?_)
      | (refine op_skip rfl rfl (by simp [undef]) rfl ?_)
    first
      | (refine op_want rfl rfl ?_
         first | refine op_v (v_fieldB 3 Try.underlying27 rfl rfl fz25 rfl) rfl ?_ | refine op_v (v_fieldI 3 Try.underlying27 rfl rfl fz25 rfl (by assumption)) rfl ?_ | refine op_v (v_field Try.underlying27 rfl fz25 rfl rfl) rfl ?_)
      | (refine op_skip rfl rfl (by simp [undef]) rfl ?_)
    first
      | (refine op_want rfl rfl ?_
         refine op_v (v_loadA ty25 rfl rfl) rfl ?_)
      | (refine op_skip rfl rfl (by simp [undef]) rfl ?_)
    first
      | (refine op_want rfl rfl ?_
         refine op_call pl39 rfl rfl ((TSame_does (hl.mono Imm.leA) (kr.mono Imm.leA) h1 h4)) Parts.none ?_
         rintro _ I22 _ hI22 ⟨rfl, rfl⟩)
      | (refine op_skip rfl rfl (by simp [undef]) rfl ?_)
    by_cases e3 : x.l = y.r
    · rw [show decide (x.l = y.r) = true by simpa using e3]
      first
        | (refine op_want rfl rfl ?_
           refine op_v (v_move rfl) rfl ?_)
        | (refine op_skip rfl rfl (by simp [undef]) rfl ?_)
      first
        | (refine op_want rfl rfl ?_
           first | refine op_v (v_fieldB 3 Try.underlying27 rfl rfl fz25 rfl) rfl ?_ | refine op_v (v_fieldI 3 Try.underlying27 rfl rfl fz25 rfl (by assumption)) rfl ?_ | refine op_v (v_field Try.underlying27 rfl fz25 rfl rfl) rfl ?_)
        | (refine op_skip rfl rfl (by simp [undef]) rfl ?_)
      first
        | (refine op_want rfl rfl ?_
           refine op_v (v_loadA ty25 rfl rfl) rfl ?_)
        | (refine op_skip rfl rfl (by simp [undef]) rfl ?_)
      first
        | (refine op_want rfl rfl ?_
           first | refine op_v (v_fieldB 1 Try.underlying27 rfl rfl fz25 rfl) rfl ?_ | refine op_v (v_fieldI 1 Try.underlying27 rfl rfl fz25 rfl (by assumption)) rfl ?_ | refine op_v (v_field Try.underlying27 rfl fz25 rfl rfl) rfl ?_)
        | (refine op_skip rfl rfl (by simp [undef]) rfl ?_)
      first
        | (refine op_want rfl rfl ?_
           refine op_v (v_loadA ty25 rfl rfl) rfl ?_)
        | (refine op_skip rfl rfl (by simp [undef]) rfl ?_)
      first
        | (refine op_want rfl rfl ?_
           refine op_call pl39 rfl rfl ((TSame_does (hr.mono Imm.leA) (kl.mono Imm.leA) h2 h3)) Parts.none ?_
           rintro _ I28 _ hI28 ⟨rfl, rfl⟩)
        | (refine op_skip rfl rfl (by simp [undef]) rfl ?_)
      first
        | (refine op_want rfl rfl ?_
           first | refine op_v (v_pickt rfl rfl) rfl ?_ | refine op_v (v_pickf rfl rfl) rfl ?_ | refine op_v (v_pickb rfl rfl rfl) rfl ?_)
        | (refine op_skip rfl rfl (by simp [undef]) rfl ?_)
      first | refine op_v (v_pickt rfl rfl) rfl ?_ | refine op_v (v_pickf rfl rfl) rfl ?_ | refine op_v (v_pickb rfl rfl rfl) rfl ?_
      refine op_v (v_assign rfl) rfl ?_
      refine ops_nil ?_
      refine post_next ?_
      refine code_ret ?_
      refine post_ret (rs := [.tmp 4]) rfl (List.Perm.refl _) (.cons (.tmp rfl) .nil) (List.nil_sublist _) ?_
      exact ⟨by unfold eqL; simp_all [outV], rfl⟩
    · rw [show decide (x.l = y.r) = false by simpa using e3]
      first
        | (refine op_want rfl rfl ?_
           refine op_v (v_move rfl) rfl ?_)
        | (refine op_skip rfl rfl (by simp [undef]) rfl ?_)
      first
        | (refine op_want rfl rfl ?_
           first | refine op_v (v_fieldB 3 Try.underlying27 rfl rfl fz25 rfl) rfl ?_ | refine op_v (v_fieldI 3 Try.underlying27 rfl rfl fz25 rfl (by assumption)) rfl ?_ | refine op_v (v_field Try.underlying27 rfl fz25 rfl rfl) rfl ?_)
        | (refine op_skip rfl rfl (by simp [undef]) rfl ?_)
      first
        | (refine op_want rfl rfl ?_
           refine op_v (v_loadA ty25 rfl rfl) rfl ?_)
        | (refine op_skip rfl rfl (by simp [undef]) rfl ?_)
      first
        | (refine op_want rfl rfl ?_
           first | refine op_v (v_fieldB 1 Try.underlying27 rfl rfl fz25 rfl) rfl ?_ | refine op_v (v_fieldI 1 Try.underlying27 rfl rfl fz25 rfl (by assumption)) rfl ?_ | refine op_v (v_field Try.underlying27 rfl fz25 rfl rfl) rfl ?_)
        | (refine op_skip rfl rfl (by simp [undef]) rfl ?_)
      first
        | (refine op_want rfl rfl ?_
           refine op_v (v_loadA ty25 rfl rfl) rfl ?_)
        | (refine op_skip rfl rfl (by simp [undef]) rfl ?_)
      first
        | (refine op_want rfl rfl ?_
           refine op_call pl39 rfl rfl ((TSame_does (hr.mono Imm.leA) (kl.mono Imm.leA) h2 h3)) Parts.none ?_
           rintro _ I28 _ hI28 ⟨rfl, rfl⟩)
        | (refine op_skip rfl rfl (by simp [undef]) rfl ?_)
      first
        | (refine op_want rfl rfl ?_
           first | refine op_v (v_pickt rfl rfl) rfl ?_ | refine op_v (v_pickf rfl rfl) rfl ?_ | refine op_v (v_pickb rfl rfl rfl) rfl ?_)
        | (refine op_skip rfl rfl (by simp [undef]) rfl ?_)
      first | refine op_v (v_pickt rfl rfl) rfl ?_ | refine op_v (v_pickf rfl rfl) rfl ?_ | refine op_v (v_pickb rfl rfl rfl) rfl ?_
      refine op_v (v_assign rfl) rfl ?_
      refine ops_nil ?_
      refine post_next ?_
      refine code_ret ?_
      refine post_ret (rs := [.tmp 4]) rfl (List.Perm.refl _) (.cons (.tmp rfl) .nil) (List.nil_sublist _) ?_
      exact ⟨by unfold eqL; simp_all [outV], rfl⟩
theorem LSame_does {I : Imm} {va vb : Value} {x y : Li} (ha : RepL I va x) (hb : RepL I vb y) (h1 : x.l.size ≤ 1000000000) (h2 : x.r.size ≤ 1000000000) (h3 : y.l.size ≤ 1000000000) (h4 : y.r.size ≤ 1000000000) :
    Does Try.prog 20 [va, vb] I [] (fun v _ δ' => v = .bool (sameL x y) ∧ δ' = []) := by
  have ha0 := ha
  have hb0 := hb
  obtain ⟨la, lc, ra, rc, rfl, hl, hr⟩ := ha
  obtain ⟨ma, mc, na, nc, rfl, kl, kr⟩ := hb
  refine Does.intro Try.func20 rfl Try.ntmps20 rfl fun w0 => ?_
  refine code_seq ?_
  refine code_region ?_
  refine o_box rfl rfl rfl (fun b2 => ?_)
  refine o_box rfl rfl rfl (fun b3 => ?_)
  refine op_v (v_assign rfl) rfl ?_
  refine ops_nil ?_
  refine post_next ?_
  refine code_seq ?_
  refine code_region ?_
  first | refine op_v (v_fieldB 0 Try.underlying27 rfl rfl fz4 rfl) rfl ?_ | refine op_v (v_fieldI 0 Try.underlying27 rfl rfl fz4 rfl (by assumption)) rfl ?_ | refine op_v (v_field Try.underlying27 rfl fz4 rfl rfl) rfl ?_
  refine op_v (v_loadA ty4 rfl rfl) rfl ?_
  first | refine op_v (v_fieldB 0 Try.underlying27 rfl rfl fz4 rfl) rfl ?_ | refine op_v (v_fieldI 0 Try.underlying27 rfl rfl fz4 rfl (by assumption)) rfl ?_ | refine op_v (v_field Try.underlying27 rfl fz4 rfl rfl) rfl ?_
  refine op_v (v_loadA ty4 rfl rfl) rfl ?_
  refine op_v (v_eqb (z := (x.neg == y.neg)) Try.underlying4 rfl rfl rfl) rfl ?_
  by_cases e1 : (x.neg == y.neg) = true
  · rw [e1]
    refine op_v (v_move rfl) rfl ?_
    first
      | (refine op_want rfl rfl ?_
         refine op_v (v_loadA ty27 rfl rfl) rfl ?_)
      | (refine op_skip rfl rfl (by simp [undef]) rfl ?_)
    first
      | (refine op_want rfl rfl ?_
         refine op_v (v_loadA ty27 rfl rfl) rfl ?_)
      | (refine op_skip rfl rfl (by simp [undef]) rfl ?_)
    first
      | (refine op_want rfl rfl ?_
         refine op_call pl59 rfl rfl ((equal_does (ha0.mono Imm.leA) (hb0.mono Imm.leA) h1 h2 h3 h4)) Parts.none ?_
         rintro _ I13 _ hI13 ⟨rfl, rfl⟩)
      | (refine op_skip rfl rfl (by simp [undef]) rfl ?_)
    first | refine op_v (v_pickt rfl rfl) rfl ?_ | refine op_v (v_pickf rfl rfl) rfl ?_ | refine op_v (v_pickb rfl rfl rfl) rfl ?_
    refine op_v (v_assign rfl) rfl ?_
    refine ops_nil ?_
    refine post_next ?_
    refine code_ret ?_
    refine post_ret (rs := [.tmp 4]) rfl (List.Perm.refl _) (.cons (.tmp rfl) .nil) (List.nil_sublist _) ?_
    exact ⟨by unfold sameL; rw [e1]; rfl, rfl⟩
  · have e1' : (x.neg == y.neg) = false := by simpa using e1
    rw [e1']
    refine op_v (v_move rfl) rfl ?_
    first
      | (refine op_want rfl rfl ?_
         refine op_v (v_loadA ty27 rfl rfl) rfl ?_)
      | (refine op_skip rfl rfl (by simp [undef]) rfl ?_)
    first
      | (refine op_want rfl rfl ?_
         refine op_v (v_loadA ty27 rfl rfl) rfl ?_)
      | (refine op_skip rfl rfl (by simp [undef]) rfl ?_)
    first
      | (refine op_want rfl rfl ?_
         refine op_call pl59 rfl rfl ((equal_does (ha0.mono Imm.leA) (hb0.mono Imm.leA) h1 h2 h3 h4)) Parts.none ?_
         rintro _ I13 _ hI13 ⟨rfl, rfl⟩)
      | (refine op_skip rfl rfl (by simp [undef]) rfl ?_)
    first | refine op_v (v_pickt rfl rfl) rfl ?_ | refine op_v (v_pickf rfl rfl) rfl ?_ | refine op_v (v_pickb rfl rfl rfl) rfl ?_
    refine op_v (v_assign rfl) rfl ?_
    refine ops_nil ?_
    refine post_next ?_
    refine code_ret ?_
    refine post_ret (rs := [.tmp 4]) rfl (List.Perm.refl _) (.cons (.tmp rfl) .nil) (List.nil_sublist _) ?_
    exact ⟨by unfold sameL; rw [e1']; rfl, rfl⟩
theorem LOpp_does {I : Imm} {va vb : Value} {x y : Li} (ha : RepL I va x) (hb : RepL I vb y) (h1 : x.l.size ≤ 1000000000) (h2 : x.r.size ≤ 1000000000) (h3 : y.l.size ≤ 1000000000) (h4 : y.r.size ≤ 1000000000) :
    Does Try.prog 26 [va, vb] I [] (fun v _ δ' => v = .bool (oppL x y) ∧ δ' = []) := by
  have ha0 := ha
  have hb0 := hb
  obtain ⟨la, lc, ra, rc, rfl, hl, hr⟩ := ha
  obtain ⟨ma, mc, na, nc, rfl, kl, kr⟩ := hb
  refine Does.intro Try.func26 rfl Try.ntmps26 rfl fun w0 => ?_
  refine code_seq ?_
  refine code_region ?_
  refine o_box rfl rfl rfl (fun b2 => ?_)
  refine o_box rfl rfl rfl (fun b3 => ?_)
  refine op_v (v_assign rfl) rfl ?_
  refine ops_nil ?_
  refine post_next ?_
  refine code_seq ?_
  refine code_region ?_
  first | refine op_v (v_fieldB 0 Try.underlying27 rfl rfl fz4 rfl) rfl ?_ | refine op_v (v_fieldI 0 Try.underlying27 rfl rfl fz4 rfl (by assumption)) rfl ?_ | refine op_v (v_field Try.underlying27 rfl fz4 rfl rfl) rfl ?_
  refine op_v (v_loadA ty4 rfl rfl) rfl ?_
  first | refine op_v (v_fieldB 0 Try.underlying27 rfl rfl fz4 rfl) rfl ?_ | refine op_v (v_fieldI 0 Try.underlying27 rfl rfl fz4 rfl (by assumption)) rfl ?_ | refine op_v (v_field Try.underlying27 rfl fz4 rfl rfl) rfl ?_
  refine op_v (v_loadA ty4 rfl rfl) rfl ?_
  refine op_v (v_eqb (z := !(x.neg == y.neg)) Try.underlying4 rfl rfl rfl) rfl ?_
  by_cases e1 : (x.neg == y.neg) = true
  · rw [e1]
    refine op_v (v_move rfl) rfl ?_
    first
      | (refine op_want rfl rfl ?_
         refine op_v (v_loadA ty27 rfl rfl) rfl ?_)
      | (refine op_skip rfl rfl (by simp [undef]) rfl ?_)
    first
      | (refine op_want rfl rfl ?_
         refine op_v (v_loadA ty27 rfl rfl) rfl ?_)
      | (refine op_skip rfl rfl (by simp [undef]) rfl ?_)
    first
      | (refine op_want rfl rfl ?_
         refine op_call pl59 rfl rfl ((equal_does (ha0.mono Imm.leA) (hb0.mono Imm.leA) h1 h2 h3 h4)) Parts.none ?_
         rintro _ I13 _ hI13 ⟨rfl, rfl⟩)
      | (refine op_skip rfl rfl (by simp [undef]) rfl ?_)
    first | refine op_v (v_pickt rfl rfl) rfl ?_ | refine op_v (v_pickf rfl rfl) rfl ?_ | refine op_v (v_pickb rfl rfl rfl) rfl ?_
    refine op_v (v_assign rfl) rfl ?_
    refine ops_nil ?_
    refine post_next ?_
    refine code_ret ?_
    refine post_ret (rs := [.tmp 4]) rfl (List.Perm.refl _) (.cons (.tmp rfl) .nil) (List.nil_sublist _) ?_
    exact ⟨by unfold oppL; rw [e1]; rfl, rfl⟩
  · have e1' : (x.neg == y.neg) = false := by simpa using e1
    rw [e1']
    refine op_v (v_move rfl) rfl ?_
    first
      | (refine op_want rfl rfl ?_
         refine op_v (v_loadA ty27 rfl rfl) rfl ?_)
      | (refine op_skip rfl rfl (by simp [undef]) rfl ?_)
    first
      | (refine op_want rfl rfl ?_
         refine op_v (v_loadA ty27 rfl rfl) rfl ?_)
      | (refine op_skip rfl rfl (by simp [undef]) rfl ?_)
    first
      | (refine op_want rfl rfl ?_
         refine op_call pl59 rfl rfl ((equal_does (ha0.mono Imm.leA) (hb0.mono Imm.leA) h1 h2 h3 h4)) Parts.none ?_
         rintro _ I13 _ hI13 ⟨rfl, rfl⟩)
      | (refine op_skip rfl rfl (by simp [undef]) rfl ?_)
    first | refine op_v (v_pickt rfl rfl) rfl ?_ | refine op_v (v_pickf rfl rfl) rfl ?_ | refine op_v (v_pickb rfl rfl rfl) rfl ?_
    refine op_v (v_assign rfl) rfl ?_
    refine ops_nil ?_
    refine post_next ?_
    refine code_ret ?_
    refine post_ret (rs := [.tmp 4]) rfl (List.Perm.refl _) (.cons (.tmp rfl) .nil) (List.nil_sublist _) ?_
    exact ⟨by unfold oppL; rw [e1']; rfl, rfl⟩
theorem LTrivial_does {I : Imm} {va : Value} {x : Li} (ha : RepL I va x) (h1 : x.l.size ≤ 1000000000) (h2 : x.r.size ≤ 1000000000) :
    Does Try.prog 27 [va] I [] (fun v _ δ' => v = .bool (decide (x.l = x.r)) ∧ δ' = []) := by
  obtain ⟨la, lc, ra, rc, rfl, hl, hr⟩ := ha
  refine Does.intro Try.func27 rfl Try.ntmps27 rfl fun w0 => ?_
  refine code_seq ?_
  refine code_region ?_
  refine o_box rfl rfl rfl (fun b1 => ?_)
  refine op_v (v_assign rfl) rfl ?_
  refine ops_nil ?_
  refine post_next ?_
  refine code_seq ?_
  refine code_region ?_
  first | refine op_v (v_fieldB 1 Try.underlying27 rfl rfl fz25 rfl) rfl ?_ | refine op_v (v_fieldI 1 Try.underlying27 rfl rfl fz25 rfl (by assumption)) rfl ?_ | refine op_v (v_field Try.underlying27 rfl fz25 rfl rfl) rfl ?_
  refine op_v (v_loadA ty25 rfl rfl) rfl ?_
  first | refine op_v (v_fieldB 3 Try.underlying27 rfl rfl fz25 rfl) rfl ?_ | refine op_v (v_fieldI 3 Try.underlying27 rfl rfl fz25 rfl (by assumption)) rfl ?_ | refine op_v (v_field Try.underlying27 rfl fz25 rfl rfl) rfl ?_
  refine op_v (v_loadA ty25 rfl rfl) rfl ?_
  refine op_call pl39 rfl rfl ((TSame_does (hl.mono Imm.leA) (hr.mono Imm.leA) h1 h2)) Parts.none ?_
  rintro _ I7 _ hI7 ⟨rfl, rfl⟩
  refine op_v (v_assign rfl) rfl ?_
  refine ops_nil ?_
  refine post_next ?_
  refine code_ret ?_
  refine post_ret (rs := [.tmp 2]) rfl (List.Perm.refl _) (.cons (.tmp rfl) .nil) (List.nil_sublist _) ?_
  exact ⟨rfl, rfl⟩
theorem Exact_does {I : Imm} {va vb : Value} {x y : Li} (ha : RepL I va x) (hb : RepL I vb y) (h1 : x.l.size ≤ 1000000000) (h2 : x.r.size ≤ 1000000000) (h3 : y.l.size ≤ 1000000000) (h4 : y.r.size ≤ 1000000000) :
    Does Try.prog 21 [va, vb] I [] (fun v _ δ' => v = .bool (exactL x y) ∧ δ' = []) := by
  obtain ⟨la, lc, ra, rc, rfl, hl, hr⟩ := ha
  obtain ⟨ma, mc, na, nc, rfl, kl, kr⟩ := hb
  refine Does.intro Try.func21 rfl Try.ntmps21 rfl fun w0 => ?_
  refine code_seq ?_
  refine code_region ?_
  refine o_box rfl rfl rfl (fun b2 => ?_)
  refine o_box rfl rfl rfl (fun b3 => ?_)
  refine op_v (v_assign rfl) rfl ?_
  refine ops_nil ?_
  refine post_next ?_
  refine code_seq ?_
  refine code_region ?_
  first | refine op_v (v_fieldB 0 Try.underlying27 rfl rfl fz4 rfl) rfl ?_ | refine op_v (v_fieldI 0 Try.underlying27 rfl rfl fz4 rfl (by assumption)) rfl ?_ | refine op_v (v_field Try.underlying27 rfl fz4 rfl rfl) rfl ?_
  refine op_v (v_loadA ty4 rfl rfl) rfl ?_
  first | refine op_v (v_fieldB 0 Try.underlying27 rfl rfl fz4 rfl) rfl ?_ | refine op_v (v_fieldI 0 Try.underlying27 rfl rfl fz4 rfl (by assumption)) rfl ?_ | refine op_v (v_field Try.underlying27 rfl fz4 rfl rfl) rfl ?_
  refine op_v (v_loadA ty4 rfl rfl) rfl ?_
  refine op_v (v_eqb (z := (x.neg == y.neg)) Try.underlying4 rfl rfl rfl) rfl ?_
  by_cases e1 : (x.neg == y.neg) = true
  · rw [e1]
    refine op_v (v_move rfl) rfl ?_
    first
      | (refine op_want rfl rfl ?_
         first | refine op_v (v_fieldB 1 Try.underlying27 rfl rfl fz25 rfl) rfl ?_ | refine op_v (v_fieldI 1 Try.underlying27 rfl rfl fz25 rfl (by assumption)) rfl ?_ | refine op_v (v_field Try.underlying27 rfl fz25 rfl rfl) rfl ?_)
      | (refine op_skip rfl rfl (by simp [undef]) rfl ?_)
    first
      | (refine op_want rfl rfl ?_
         refine op_v (v_loadA ty25 rfl rfl) rfl ?_)
      | (refine op_skip rfl rfl (by simp [undef]) rfl ?_)
    first
      | (refine op_want rfl rfl ?_
         first | refine op_v (v_fieldB 1 Try.underlying27 rfl rfl fz25 rfl) rfl ?_ | refine op_v (v_fieldI 1 Try.underlying27 rfl rfl fz25 rfl (by assumption)) rfl ?_ | refine op_v (v_field Try.underlying27 rfl fz25 rfl rfl) rfl ?_)
      | (refine op_skip rfl rfl (by simp [undef]) rfl ?_)
    first
      | (refine op_want rfl rfl ?_
         refine op_v (v_loadA ty25 rfl rfl) rfl ?_)
      | (refine op_skip rfl rfl (by simp [undef]) rfl ?_)
    first
      | (refine op_want rfl rfl ?_
         refine op_call pl60 rfl rfl ((Same_does _ _ _ _ _ (hl.mono Imm.leA) (kl.mono Imm.leA) h1 h3)) Parts.none ?_
         rintro _ I15 _ hI15 ⟨rfl, rfl⟩)
      | (refine op_skip rfl rfl (by simp [undef]) rfl ?_)
    by_cases e2 : x.l = y.l
    · rw [show decide (x.l = y.l) = true by simpa using e2]
      first | refine op_v (v_pickt rfl rfl) rfl ?_ | refine op_v (v_pickf rfl rfl) rfl ?_ | refine op_v (v_pickb rfl rfl rfl) rfl ?_
      refine op_v (v_move rfl) rfl ?_
      first
        | (refine op_want rfl rfl ?_
           first | refine op_v (v_fieldB 3 Try.underlying27 rfl rfl fz25 rfl) rfl ?_ | refine op_v (v_fieldI 3 Try.underlying27 rfl rfl fz25 rfl (by assumption)) rfl ?_ | refine op_v (v_field Try.underlying27 rfl fz25 rfl rfl) rfl ?_)
        | (refine op_skip rfl rfl (by simp [undef]) rfl ?_)
      first
        | (refine op_want rfl rfl ?_
           refine op_v (v_loadA ty25 rfl rfl) rfl ?_)
        | (refine op_skip rfl rfl (by simp [undef]) rfl ?_)
      first
        | (refine op_want rfl rfl ?_
           first | refine op_v (v_fieldB 3 Try.underlying27 rfl rfl fz25 rfl) rfl ?_ | refine op_v (v_fieldI 3 Try.underlying27 rfl rfl fz25 rfl (by assumption)) rfl ?_ | refine op_v (v_field Try.underlying27 rfl fz25 rfl rfl) rfl ?_)
        | (refine op_skip rfl rfl (by simp [undef]) rfl ?_)
      first
        | (refine op_want rfl rfl ?_
           refine op_v (v_loadA ty25 rfl rfl) rfl ?_)
        | (refine op_skip rfl rfl (by simp [undef]) rfl ?_)
      first
        | (refine op_want rfl rfl ?_
           refine op_call pl60 rfl rfl ((Same_does _ _ _ _ _ (hr.mono Imm.leA) (kr.mono Imm.leA) h2 h4)) Parts.none ?_
           rintro _ I22 _ hI22 ⟨rfl, rfl⟩)
        | (refine op_skip rfl rfl (by simp [undef]) rfl ?_)
      first | refine op_v (v_pickt rfl rfl) rfl ?_ | refine op_v (v_pickf rfl rfl) rfl ?_ | refine op_v (v_pickb rfl rfl rfl) rfl ?_
      refine op_v (v_assign rfl) rfl ?_
      refine ops_nil ?_
      refine post_next ?_
      refine code_ret ?_
      refine post_ret (rs := [.tmp 4]) rfl (List.Perm.refl _) (.cons (.tmp rfl) .nil) (List.nil_sublist _) ?_
      exact ⟨by unfold exactL; rw [e1, show decide (x.l = y.l) = true by simpa using e2]; rfl, rfl⟩
    · rw [show decide (x.l = y.l) = false by simpa using e2]
      first | refine op_v (v_pickt rfl rfl) rfl ?_ | refine op_v (v_pickf rfl rfl) rfl ?_ | refine op_v (v_pickb rfl rfl rfl) rfl ?_
      refine op_v (v_move rfl) rfl ?_
      first
        | (refine op_want rfl rfl ?_
           first | refine op_v (v_fieldB 3 Try.underlying27 rfl rfl fz25 rfl) rfl ?_ | refine op_v (v_fieldI 3 Try.underlying27 rfl rfl fz25 rfl (by assumption)) rfl ?_ | refine op_v (v_field Try.underlying27 rfl fz25 rfl rfl) rfl ?_)
        | (refine op_skip rfl rfl (by simp [undef]) rfl ?_)
      first
        | (refine op_want rfl rfl ?_
           refine op_v (v_loadA ty25 rfl rfl) rfl ?_)
        | (refine op_skip rfl rfl (by simp [undef]) rfl ?_)
      first
        | (refine op_want rfl rfl ?_
           first | refine op_v (v_fieldB 3 Try.underlying27 rfl rfl fz25 rfl) rfl ?_ | refine op_v (v_fieldI 3 Try.underlying27 rfl rfl fz25 rfl (by assumption)) rfl ?_ | refine op_v (v_field Try.underlying27 rfl fz25 rfl rfl) rfl ?_)
        | (refine op_skip rfl rfl (by simp [undef]) rfl ?_)
      first
        | (refine op_want rfl rfl ?_
           refine op_v (v_loadA ty25 rfl rfl) rfl ?_)
        | (refine op_skip rfl rfl (by simp [undef]) rfl ?_)
      first
        | (refine op_want rfl rfl ?_
           refine op_call pl60 rfl rfl ((Same_does _ _ _ _ _ (hr.mono Imm.leA) (kr.mono Imm.leA) h2 h4)) Parts.none ?_
           rintro _ I22 _ hI22 ⟨rfl, rfl⟩)
        | (refine op_skip rfl rfl (by simp [undef]) rfl ?_)
      first | refine op_v (v_pickt rfl rfl) rfl ?_ | refine op_v (v_pickf rfl rfl) rfl ?_ | refine op_v (v_pickb rfl rfl rfl) rfl ?_
      refine op_v (v_assign rfl) rfl ?_
      refine ops_nil ?_
      refine post_next ?_
      refine code_ret ?_
      refine post_ret (rs := [.tmp 4]) rfl (List.Perm.refl _) (.cons (.tmp rfl) .nil) (List.nil_sublist _) ?_
      exact ⟨by unfold exactL; rw [e1, show decide (x.l = y.l) = false by simpa using e2]; rfl, rfl⟩
  · have e1' : (x.neg == y.neg) = false := by simpa using e1
    rw [e1']
    refine op_v (v_move rfl) rfl ?_
    first
      | (refine op_want rfl rfl ?_
         first | refine op_v (v_fieldB 1 Try.underlying27 rfl rfl fz25 rfl) rfl ?_ | refine op_v (v_fieldI 1 Try.underlying27 rfl rfl fz25 rfl (by assumption)) rfl ?_ | refine op_v (v_field Try.underlying27 rfl fz25 rfl rfl) rfl ?_)
      | (refine op_skip rfl rfl (by simp [undef]) rfl ?_)
    first
      | (refine op_want rfl rfl ?_
         refine op_v (v_loadA ty25 rfl rfl) rfl ?_)
      | (refine op_skip rfl rfl (by simp [undef]) rfl ?_)
    first
      | (refine op_want rfl rfl ?_
         first | refine op_v (v_fieldB 1 Try.underlying27 rfl rfl fz25 rfl) rfl ?_ | refine op_v (v_fieldI 1 Try.underlying27 rfl rfl fz25 rfl (by assumption)) rfl ?_ | refine op_v (v_field Try.underlying27 rfl fz25 rfl rfl) rfl ?_)
      | (refine op_skip rfl rfl (by simp [undef]) rfl ?_)
    first
      | (refine op_want rfl rfl ?_
         refine op_v (v_loadA ty25 rfl rfl) rfl ?_)
      | (refine op_skip rfl rfl (by simp [undef]) rfl ?_)
    first
      | (refine op_want rfl rfl ?_
         refine op_call pl60 rfl rfl ((Same_does _ _ _ _ _ (hl.mono Imm.leA) (kl.mono Imm.leA) h1 h3)) Parts.none ?_
         rintro _ I15 _ hI15 ⟨rfl, rfl⟩)
      | (refine op_skip rfl rfl (by simp [undef]) rfl ?_)
    first | refine op_v (v_pickt rfl rfl) rfl ?_ | refine op_v (v_pickf rfl rfl) rfl ?_ | refine op_v (v_pickb rfl rfl rfl) rfl ?_
    refine op_v (v_move rfl) rfl ?_
    first
      | (refine op_want rfl rfl ?_
         first | refine op_v (v_fieldB 3 Try.underlying27 rfl rfl fz25 rfl) rfl ?_ | refine op_v (v_fieldI 3 Try.underlying27 rfl rfl fz25 rfl (by assumption)) rfl ?_ | refine op_v (v_field Try.underlying27 rfl fz25 rfl rfl) rfl ?_)
      | (refine op_skip rfl rfl (by simp [undef]) rfl ?_)
    first
      | (refine op_want rfl rfl ?_
         refine op_v (v_loadA ty25 rfl rfl) rfl ?_)
      | (refine op_skip rfl rfl (by simp [undef]) rfl ?_)
    first
      | (refine op_want rfl rfl ?_
         first | refine op_v (v_fieldB 3 Try.underlying27 rfl rfl fz25 rfl) rfl ?_ | refine op_v (v_fieldI 3 Try.underlying27 rfl rfl fz25 rfl (by assumption)) rfl ?_ | refine op_v (v_field Try.underlying27 rfl fz25 rfl rfl) rfl ?_)
      | (refine op_skip rfl rfl (by simp [undef]) rfl ?_)
    first
      | (refine op_want rfl rfl ?_
         refine op_v (v_loadA ty25 rfl rfl) rfl ?_)
      | (refine op_skip rfl rfl (by simp [undef]) rfl ?_)
    first
      | (refine op_want rfl rfl ?_
         refine op_call pl60 rfl rfl ((Same_does _ _ _ _ _ (hr.mono Imm.leA) (kr.mono Imm.leA) h2 h4)) Parts.none ?_
         rintro _ I22 _ hI22 ⟨rfl, rfl⟩)
      | (refine op_skip rfl rfl (by simp [undef]) rfl ?_)
    first | refine op_v (v_pickt rfl rfl) rfl ?_ | refine op_v (v_pickf rfl rfl) rfl ?_ | refine op_v (v_pickb rfl rfl rfl) rfl ?_
    refine op_v (v_assign rfl) rfl ?_
    refine ops_nil ?_
    refine post_next ?_
    refine code_ret ?_
    refine post_ret (rs := [.tmp 4]) rfl (List.Perm.refl _) (.cons (.tmp rfl) .nil) (List.nil_sublist _) ?_
    exact ⟨by unfold exactL; rw [e1']; rfl, rfl⟩
theorem FewL_does {I : Imm} {va : Value} {x : Li} (ha : RepL I va x) :
    Does Try.prog 15 [va] I [] (fun v _ δ' => v = .bool (fewL x) ∧ δ' = []) := by
  obtain ⟨la, lc, ra, rc, rfl, hl, hr⟩ := ha
  refine Does.intro Try.func15 rfl Try.ntmps15 rfl fun w0 => ?_
  refine code_seq ?_
  refine code_region ?_
  refine o_box rfl rfl rfl (fun b1 => ?_)
  refine op_v (v_assign rfl) rfl ?_
  refine ops_nil ?_
  refine post_next ?_
  refine code_seq ?_
  refine code_region ?_
  first | refine op_v (v_fieldB 1 Try.underlying27 rfl rfl fz25 rfl) rfl ?_ | refine op_v (v_fieldI 1 Try.underlying27 rfl rfl fz25 rfl (by assumption)) rfl ?_ | refine op_v (v_field Try.underlying27 rfl fz25 rfl rfl) rfl ?_
  refine op_v (v_loadA ty25 rfl rfl) rfl ?_
  refine op_call pl48 rfl rfl ((Few_does _ _ _ (hl.mono Imm.leA))) Parts.none ?_
  rintro _ I5 _ hI5 ⟨rfl, rfl⟩
  by_cases e1 : x.l.size ≤ 500
  · rw [show decide (x.l.size ≤ 500) = true by simpa using e1]
    refine op_v (v_move rfl) rfl ?_
    first
      | (refine op_want rfl rfl ?_
         first | refine op_v (v_fieldB 3 Try.underlying27 rfl rfl fz25 rfl) rfl ?_ | refine op_v (v_fieldI 3 Try.underlying27 rfl rfl fz25 rfl (by assumption)) rfl ?_ | refine op_v (v_field Try.underlying27 rfl fz25 rfl rfl) rfl ?_)
      | (refine op_skip rfl rfl (by simp [undef]) rfl ?_)
    first
      | (refine op_want rfl rfl ?_
         refine op_v (v_loadA ty25 rfl rfl) rfl ?_)
      | (refine op_skip rfl rfl (by simp [undef]) rfl ?_)
    first
      | (refine op_want rfl rfl ?_
         refine op_call pl48 rfl rfl ((Few_does _ _ _ (hr.mono Imm.leA))) Parts.none ?_
         rintro _ I9 _ hI9 ⟨rfl, rfl⟩)
      | (refine op_skip rfl rfl (by simp [undef]) rfl ?_)
    first | refine op_v (v_pickt rfl rfl) rfl ?_ | refine op_v (v_pickf rfl rfl) rfl ?_ | refine op_v (v_pickb rfl rfl rfl) rfl ?_
    refine op_v (v_assign rfl) rfl ?_
    refine ops_nil ?_
    refine post_next ?_
    refine code_ret ?_
    refine post_ret (rs := [.tmp 2]) rfl (List.Perm.refl _) (.cons (.tmp rfl) .nil) (List.nil_sublist _) ?_
    exact ⟨by unfold fewL; rw [show decide (x.l.size ≤ 500) = true by simpa using e1]; rfl, rfl⟩
  · rw [show decide (x.l.size ≤ 500) = false by simpa using e1]
    refine op_v (v_move rfl) rfl ?_
    first
      | (refine op_want rfl rfl ?_
         first | refine op_v (v_fieldB 3 Try.underlying27 rfl rfl fz25 rfl) rfl ?_ | refine op_v (v_fieldI 3 Try.underlying27 rfl rfl fz25 rfl (by assumption)) rfl ?_ | refine op_v (v_field Try.underlying27 rfl fz25 rfl rfl) rfl ?_)
      | (refine op_skip rfl rfl (by simp [undef]) rfl ?_)
    first
      | (refine op_want rfl rfl ?_
         refine op_v (v_loadA ty25 rfl rfl) rfl ?_)
      | (refine op_skip rfl rfl (by simp [undef]) rfl ?_)
    first
      | (refine op_want rfl rfl ?_
         refine op_call pl48 rfl rfl ((Few_does _ _ _ (hr.mono Imm.leA))) Parts.none ?_
         rintro _ I9 _ hI9 ⟨rfl, rfl⟩)
      | (refine op_skip rfl rfl (by simp [undef]) rfl ?_)
    first | refine op_v (v_pickt rfl rfl) rfl ?_ | refine op_v (v_pickf rfl rfl) rfl ?_ | refine op_v (v_pickb rfl rfl rfl) rfl ?_
    refine op_v (v_assign rfl) rfl ?_
    refine ops_nil ?_
    refine post_next ?_
    refine code_ret ?_
    refine post_ret (rs := [.tmp 2]) rfl (List.Perm.refl _) (.cons (.tmp rfl) .nil) (List.nil_sublist _) ?_
    exact ⟨by unfold fewL; rw [show decide (x.l.size ≤ 500) = false by simpa using e1]; rfl, rfl⟩
theorem Turn_does {I : Imm} {va : Value} {x : Li} (ha : RepL I va x) :
    Does Try.prog 51 [va] I [] (fun v I' δ' => RepL I' v ⟨x.neg, x.r, x.l⟩ ∧ δ' = []) := by
  obtain ⟨la, lc, ra, rc, rfl, hl, hr⟩ := ha
  refine Does.intro Try.func51 rfl Try.ntmps51 rfl fun w0 => ?_
  refine code_seq ?_
  refine code_region ?_
  refine o_box rfl rfl rfl (fun b1 => ?_)
  refine o_alloc z27 rfl rfl (fun b2 => ?_)
  refine ops_nil ?_
  refine post_next ?_
  refine code_seq ?_
  refine code_region ?_
  first | refine op_v (v_fieldB 0 Try.underlying27 rfl rfl fz4 rfl) rfl ?_ | refine op_v (v_fieldI 0 Try.underlying27 rfl rfl fz4 rfl (by assumption)) rfl ?_ | refine op_v (v_field Try.underlying27 rfl fz4 rfl rfl) rfl ?_
  refine op_v (v_loadA ty4 rfl rfl) rfl ?_
  first | refine op_v (v_fieldB 3 Try.underlying27 rfl rfl fz25 rfl) rfl ?_ | refine op_v (v_fieldI 3 Try.underlying27 rfl rfl fz25 rfl (by assumption)) rfl ?_ | refine op_v (v_field Try.underlying27 rfl fz25 rfl rfl) rfl ?_
  refine op_v (v_loadA ty25 rfl rfl) rfl ?_
  first | refine op_v (v_fieldB 1 Try.underlying27 rfl rfl fz25 rfl) rfl ?_ | refine op_v (v_fieldI 1 Try.underlying27 rfl rfl fz25 rfl (by assumption)) rfl ?_ | refine op_v (v_field Try.underlying27 rfl fz25 rfl rfl) rfl ?_
  refine op_v (v_loadA ty25 rfl rfl) rfl ?_
  refine op_v (v_build bl27 rfl rfl) rfl ?_
  refine o_store ty27 rfl rfl rfl rfl rfl (by repeat (first | exact Swap.here | apply Swap.there)) rfl ?_
  refine ops_nil ?_
  refine post_next ?_
  refine code_ret ?_
  refine post_ret (rs := [.cell 2 27]) rfl (List.Perm.refl _) (.cons (.cell rfl ty27 (by repeat (first | exact Has.here | apply Has.there)) rfl) .nil) (List.nil_sublist _) ?_
  exact ⟨⟨ra, rc, la, lc, rfl, hr, hl⟩, rfl⟩
theorem row_doesL {I : Imm} {va : Value} {x : Li} (ha : RepL I va x) :
    Does Try.prog 86 [va] I [] (fun v I' δ' => RepS I' v (rowL x) ∧ δ' = []) := by
  obtain ⟨la, lc, ra, rc, rfl, hl, hr⟩ := ha
  refine Does.intro Try.func86 rfl Try.ntmps86 rfl fun w0 => ?_
  refine code_seq ?_
  refine code_region ?_
  refine o_box rfl rfl rfl (fun b1 => ?_)
  refine op_v (v_assign rfl) rfl ?_
  refine ops_nil ?_
  refine post_next ?_
  refine code_seq ?_
  refine code_seq ?_
  refine code_region ?_
  first | refine op_v (v_fieldB 0 Try.underlying27 rfl rfl fz4 rfl) rfl ?_ | refine op_v (v_fieldI 0 Try.underlying27 rfl rfl fz4 rfl (by assumption)) rfl ?_ | refine op_v (v_field Try.underlying27 rfl fz4 rfl rfl) rfl ?_
  refine op_v (v_loadA ty4 rfl rfl) rfl ?_
  refine ops_nil ?_
  refine post_next ?_
  refine code_cond rfl (fun hc0 => ?_) (fun hc0 => ?_)
  · have hn : x.neg = true := hc0
    refine code_seq ?_
    refine code_region ?_
    first | refine op_v (v_fieldB 1 Try.underlying27 rfl rfl fz25 rfl) rfl ?_ | refine op_v (v_fieldI 1 Try.underlying27 rfl rfl fz25 rfl (by assumption)) rfl ?_ | refine op_v (v_field Try.underlying27 rfl fz25 rfl rfl) rfl ?_
    refine op_v (v_loadA ty25 rfl rfl) rfl ?_
    first | refine op_v (v_fieldB 1 Try.underlying27 rfl rfl fz25 rfl) rfl ?_ | refine op_v (v_fieldI 1 Try.underlying27 rfl rfl fz25 rfl (by assumption)) rfl ?_ | refine op_v (v_field Try.underlying27 rfl fz25 rfl rfl) rfl ?_
    refine op_v (v_loadA ty25 rfl rfl) rfl ?_
    first | refine op_v (v_fieldB 3 Try.underlying27 rfl rfl fz25 rfl) rfl ?_ | refine op_v (v_fieldI 3 Try.underlying27 rfl rfl fz25 rfl (by assumption)) rfl ?_ | refine op_v (v_field Try.underlying27 rfl fz25 rfl rfl) rfl ?_
    refine op_v (v_loadA ty25 rfl rfl) rfl ?_
    first | refine op_v (v_fieldB 3 Try.underlying27 rfl rfl fz25 rfl) rfl ?_ | refine op_v (v_fieldI 3 Try.underlying27 rfl rfl fz25 rfl (by assumption)) rfl ?_ | refine op_v (v_field Try.underlying27 rfl fz25 rfl rfl) rfl ?_
    refine op_v (v_loadA ty25 rfl rfl) rfl ?_
    refine o_buildSlice (xs := [(Go.Operand.tmp 6), (Go.Operand.tmp 8), (Go.Operand.tmp 10), (Go.Operand.tmp 12)]) Try.underlying23 bs25 rfl rfl rfl rfl rfl (fun b13 => ?_)
    refine OpsJ.freezeRow Del.here ?_
    rintro I13 a13 c13 hI13 hq hc13 hl13 hcells13
    cases hq
    refine op_v (v_assign rfl) rfl ?_
    refine ops_nil ?_
    refine post_next ?_
    refine code_ret ?_
    refine post_ret_then ?_
    refine post_ret (rs := [.tmp 2]) rfl (List.Perm.refl _) (.cons (.tmp rfl) .nil) (List.nil_sublist _) ?_
    exact ⟨by unfold rowL; rw [if_pos hn]; exact RowT.repS (ts := [x.l, x.l, x.r, x.r]) rfl hcells13 ((RowT.one (hl.mono Imm.leA)).app ((RowT.one (hl.mono Imm.leA)).app ((RowT.one (hr.mono Imm.leA)).app (RowT.one (hr.mono Imm.leA))))) hc13 (by omega), rfl⟩
  · have hn : ¬ x.neg = true := by rw [hc0]; simp
    refine code_skip ?_
    refine post_next ?_
    refine code_seq ?_
    refine code_region ?_
    first | refine op_v (v_fieldB 1 Try.underlying27 rfl rfl fz25 rfl) rfl ?_ | refine op_v (v_fieldI 1 Try.underlying27 rfl rfl fz25 rfl (by assumption)) rfl ?_ | refine op_v (v_field Try.underlying27 rfl fz25 rfl rfl) rfl ?_
    refine op_v (v_loadA ty25 rfl rfl) rfl ?_
    first | refine op_v (v_fieldB 3 Try.underlying27 rfl rfl fz25 rfl) rfl ?_ | refine op_v (v_fieldI 3 Try.underlying27 rfl rfl fz25 rfl (by assumption)) rfl ?_ | refine op_v (v_field Try.underlying27 rfl fz25 rfl rfl) rfl ?_
    refine op_v (v_loadA ty25 rfl rfl) rfl ?_
    refine o_buildSlice (xs := [(Go.Operand.tmp 15), (Go.Operand.tmp 17)]) Try.underlying23 bs25 rfl rfl rfl rfl rfl (fun b18 => ?_)
    refine OpsJ.freezeRow Del.here ?_
    rintro I18 a18 c18 hI18 hq hc18 hl18 hcells18
    cases hq
    refine op_v (v_assign rfl) rfl ?_
    refine ops_nil ?_
    refine post_next ?_
    refine code_ret ?_
    refine post_ret (rs := [.tmp 2]) rfl (List.Perm.refl _) (.cons (.tmp rfl) .nil) (List.nil_sublist _) ?_
    exact ⟨by unfold rowL; rw [if_neg hn]; exact RowT.repS (ts := [x.l, x.r]) rfl hcells18 ((RowT.one (hl.mono Imm.leA)).app (RowT.one (hr.mono Imm.leA))) hc18 (by omega), rfl⟩
end Go.Proofs.Ytegceppoioeeaaa
