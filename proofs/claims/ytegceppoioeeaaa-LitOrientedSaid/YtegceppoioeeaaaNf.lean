/- Walks: the statement that a literal is oriented. -/
import Derived.Test.YtegceppoioeeaaaNd
set_option linter.unusedVariables false
set_option linter.unusedSimpArgs false
set_option linter.unnecessarySimpa false
/- short -/
namespace Go.Proofs.Ytegceppoioeeaaa
open Go Lg

theorem right_truth {gs : List Sy} (h : rightG gs = true) : ∃ s r, gs = s :: r ∧ s.ar = 0 ∧ s.wt = 1 ∧ s.tr = true := by
  cases gs with
  | nil => simp [rightG] at h
  | cons x r =>
    simp only [rightG, Bool.and_eq_true] at h
    have h2 := h.2.1
    simp only [syEq, truthS, Bool.and_eq_true, beq_iff_eq] at h2
    exact ⟨x, r, rfl, h2.2.1, h2.2.2.1, h2.2.2.2⟩
theorem or2_ok {gs : List Sy} {x : Li} (h : litG gs x = 0) : litG gs (or2 gs x) = 0 := by
  unfold or2
  by_cases hs : stT gs x.l x.r = -1
  · rw [if_pos hs]
    obtain ⟨o1, o2⟩ := litG_ok h
    have t1 := termG_ok.2 o1
    have t2 := termG_ok.2 o2
    have hsort : sortL gs x = false := by
      unfold litG at h
      rw [if_neg (by omega), if_neg (by omega)] at h
      cases hq : sortL gs x with
      | false => rfl
      | true => rw [hq] at h; simp at h
    have hone : stT gs x.r x.l = 1 := by rw [stT_neg gs x.l x.r, hs]; rfl
    rw [stT_one] at hone
    have hsw : sortL gs ⟨x.neg, x.r, x.l⟩ = false := by
      unfold sortL at hsort ⊢
      simp only [Bool.or_eq_false_iff, Bool.and_eq_false_iff] at hsort ⊢
      cases hl : trL gs x.l with
      | false =>
        rw [hl] at hsort
        have hr : trL gs x.r = false := by simpa using hsort.2
        rw [hr]; simp
      | true =>
        rw [hl] at hsort
        have hr0 : x.r.head = 0 := by simpa using hsort.1
        exfalso
        obtain ⟨s, r, rfl, ha, hw, ht⟩ := right_truth o1.right
        have hlen : (x.r.args.length : Int) = 0 := by
          rw [o2.arity (by omega), hr0]; simp [arG, ha]
        have hargs : x.r.args = [] := List.eq_nil_of_length_eq_zero (by omega)
        have hwr : wgtG (s :: r) x.r = 1 := by
          rw [wgtG_eq, hargs, hr0]; simp [wB, wtG, hw, visL, sumV]
        have hwl := (wgtG_range o1).1
        have hsz := x.l.size_pos
        have hl0 : 0 ≤ x.l.head := by
          unfold trL at hl; rw [Bool.and_eq_true] at hl; simpa using hl.1
        rcases hone.2 with h1 | ⟨_, _, _, h1 | ⟨_, h1⟩⟩
        · omega
        · omega
        · rw [hargs] at h1; simp [stL] at h1
    unfold litG
    rw [if_neg (show ¬ termG gs x.r ≠ 0 by omega), if_neg (show ¬ termG gs x.l ≠ 0 by omega), hsw]; rfl
  · rw [if_neg hs]; exact h
theorem or2_twice (gs : List Sy) (x : Li) : or2 gs (or2 gs x) = or2 gs x := by
  unfold or2
  by_cases hs : stT gs x.l x.r = -1
  · rw [if_pos hs]
    have : stT gs x.r x.l = 1 := by rw [stT_neg gs x.l x.r, hs]; rfl
    rw [if_neg (by show ¬ stT gs x.r x.l = -1; omega)]
  · rw [if_neg hs, if_neg hs]
theorem or2_less (gs : List Sy) (x : Li) : stT gs (or2 gs x).l (or2 gs x).r ≠ -1 := by
  unfold or2
  by_cases hs : stT gs x.l x.r = -1
  · rw [if_pos hs]
    have : stT gs x.r x.l = 1 := by rw [stT_neg gs x.l x.r, hs]; rfl
    show stT gs x.r x.l ≠ -1; omega
  · rw [if_neg hs]; exact hs
theorem or2_same (gs : List Sy) (x : Li) : sameL (or2 gs x) x = true := by
  unfold or2
  split <;> simp [sameL, eqL]
theorem or2_size (gs : List Sy) (x : Li) (n : Nat) (h1 : x.l.size ≤ n) (h2 : x.r.size ≤ n) : (or2 gs x).l.size ≤ n ∧ (or2 gs x).r.size ≤ n := by
  unfold or2
  split
  · exact ⟨h2, h1⟩
  · exact ⟨h1, h2⟩
theorem exact_self (x : Li) : exactL x x = true := by simp [exactL]
theorem LitOriented_does {I : Imm} {vg va : Value} {gs : List Sy} {x : Li} (hg : RepG I vg gs) (ha : RepL I va x) :
    Does Try.prog 3 [vg, va] I [] (fun v I' δ' => v = .bool true ∧ δ' = []) := by
  have ha0 := ha
  obtain ⟨la, lc, ra, rc, rfl, hl, hr⟩ := ha
  refine Does.intro Try.func3 rfl Try.ntmps3 rfl fun w0 => ?_
  refine code_seq ?_
  refine code_region ?_
  refine o_box rfl rfl rfl (fun b3 => ?_)
  refine op_v (v_assign rfl) rfl ?_
  refine ops_nil ?_
  refine post_next ?_
  refine code_seq ?_
  refine code_seq ?_
  refine code_region ?_
  refine op_v (v_move rfl) rfl ?_
  refine op_call pl14 rfl rfl ((FewG_does (hg.mono Imm.leA))) Parts.none ?_
  rintro v12 I12 _ hI12 ⟨rfl, rfl⟩
  by_cases e1 : fewG gs = true
  · rw [e1]
    refine op_v (v_not rfl) rfl ?_
    refine op_v (v_move rfl) rfl ?_
    first
      | (refine op_want rfl rfl ?_
         refine op_v (v_loadA ty27 rfl rfl) rfl ?_)
      | (refine op_skip rfl rfl (by simp [undef]) rfl ?_)
    first
      | (refine op_want rfl rfl ?_
         refine op_call pl15 rfl rfl ((FewL_does (ha0.mono Imm.leA))) Parts.none ?_
         rintro v16 I16 _ hI16 ⟨rfl, rfl⟩)
      | (refine op_skip rfl rfl (by simp [undef]) rfl ?_)
    by_cases e2 : fewL x = true
    · rw [e2]
      have hsz : x.l.size ≤ 500 ∧ x.r.size ≤ 500 := by simpa [fewL] using e2
      have hz1 : x.l.size ≤ 1000000000 := by omega
      have hz2 : x.r.size ≤ 1000000000 := by omega
      obtain ⟨hz3, hz4⟩ := or2_size gs x 1000000000 hz1 hz2
      first
        | (refine op_want rfl rfl ?_
           refine op_v (v_not rfl) rfl ?_)
        | (refine op_skip rfl rfl (by simp [undef]) rfl ?_)
      first | refine op_v (v_pickt rfl rfl) rfl ?_ | refine op_v (v_pickf rfl rfl) rfl ?_ | refine op_v (v_pickb rfl rfl rfl) rfl ?_
      refine ops_nil ?_
      refine post_next ?_
      refine code_cond_f rfl ?_
      refine code_skip ?_
      refine post_next ?_
      refine code_seq ?_
      refine code_region ?_
      refine op_v (v_move rfl) rfl ?_
      refine op_v (v_loadA ty27 rfl rfl) rfl ?_
      refine op_call pl16 rfl rfl ((LOrient_does (hg.mono Imm.leA) (ha0.mono Imm.leA) hz1 hz2)) Parts.none ?_
      rintro v22 I22 _ hI22 ⟨⟨v22o, rfl, hv22⟩, rfl⟩
      obtain ⟨oa, oc, od, oe, rfl, hol, hor⟩ := hv22
      refine op_v (v_move rfl) rfl ?_
      refine op_v (v_extract rfl rfl) rfl ?_
      refine op_v (v_extract rfl rfl) rfl ?_
      refine o_alloc z27 rfl rfl (fun b5 => ?_)
      refine o_store ty27 rfl rfl rfl rfl rfl (by repeat (first | exact Swap.here | apply Swap.there)) rfl ?_
      refine op_v (v_assign rfl) rfl ?_
      refine ops_nil ?_
      refine post_next ?_
      refine code_seq ?_
      refine code_seq ?_
      refine code_region ?_
      refine op_v (v_move rfl) rfl ?_
      by_cases e3 : litG gs x ≠ 0
      · first | refine op_v (v_cmptA rfl rfl rfl) rfl ?_ | refine op_v (v_cmpfA rfl rfl rfl) rfl ?_ | refine op_v (v_cmp rfl rfl rfl) rfl ?_
        refine ops_nil ?_
        refine post_next ?_
        refine code_cond_t rfl ?_
        refine code_seq ?_
        refine code_region ?_
        refine op_call pl17 rfl rfl ((awake9_does _)) Parts.none ?_
        rintro _ I27 _ hI27 ⟨rfl, rfl⟩
        refine op_v (v_move rfl) rfl ?_
        first
          | (refine op_want rfl rfl ?_
             refine op_v (v_move rfl) rfl ?_)
          | (refine op_skip rfl rfl (by simp [undef]) rfl ?_)
        first
          | (refine op_want rfl rfl ?_
             refine op_v (v_loadA ty27 rfl rfl) rfl ?_)
          | (refine op_skip rfl rfl (by simp [undef]) rfl ?_)
        first
          | (refine op_want rfl rfl ?_
             refine op_call pl18 rfl rfl ((LCheck_does (hg.mono Imm.leA) (ha0.mono Imm.leA) hz1 hz2)) Parts.none ?_
             rintro _ I31 _ hI31 ⟨rfl, rfl⟩)
          | (refine op_skip rfl rfl (by simp [undef]) rfl ?_)
        first
          | (refine op_want rfl rfl ?_
             refine op_v (v_move rfl) rfl ?_)
          | (refine op_skip rfl rfl (by simp [undef]) rfl ?_)
        first
          | (refine op_want rfl rfl ?_
             first | refine op_v (v_cmptA rfl rfl rfl) rfl ?_ | refine op_v (v_cmpfA rfl rfl rfl) rfl ?_ | refine op_v (v_cmp rfl rfl rfl) rfl ?_)
          | (refine op_skip rfl rfl (by simp [undef]) rfl ?_)
        first | refine op_v (v_pickt rfl rfl) rfl ?_ | refine op_v (v_pickf rfl rfl) rfl ?_ | refine op_v (v_pickb rfl rfl rfl) rfl ?_
        refine op_v (v_assign rfl) rfl ?_
        refine ops_nil ?_
        refine post_next ?_
        refine code_ret ?_
        refine post_ret_then ?_
        refine post_ret (rs := [.tmp 4]) rfl (List.Perm.refl _) (.cons (.tmp rfl) .nil) (List.nil_sublist _) ?_
        exact ⟨rfl, rfl⟩
      · have e0 : litG gs x = 0 := by omega
        rw [if_pos e0] at hol hor ⊢
        have hO : RepL I22 _ (or2 gs x) := ⟨oa, oc, od, oe, rfl, hol, hor⟩
        have hlo := or2_ok e0
        obtain ⟨o1, o2⟩ := litG_ok hlo
        have hw : wrongG gs [(or2 gs x).l, (or2 gs x).r] = 0 := wrongG_ok.2 fun t ht => by simp at ht; rcases ht with rfl | rfl <;> assumption
        have hless := or2_less gs x
        first | refine op_v (v_cmptA rfl rfl rfl) rfl ?_ | refine op_v (v_cmpfA rfl rfl rfl) rfl ?_ | refine op_v (v_cmp rfl rfl rfl) rfl ?_
        refine ops_nil ?_
        refine post_next ?_
        refine code_cond_f rfl ?_
        refine code_skip ?_
        refine post_next ?_
        refine code_seq ?_
        refine code_region ?_
        refine op_v (v_move rfl) rfl ?_
        first | refine op_v (v_fieldB 1 Try.underlying27 rfl rfl fz25 rfl) rfl ?_ | refine op_v (v_fieldI 1 Try.underlying27 rfl rfl fz25 rfl (by assumption)) rfl ?_ | refine op_v (v_field Try.underlying27 rfl fz25 rfl rfl) rfl ?_
        refine op_v (v_loadA ty25 rfl rfl) rfl ?_
        first | refine op_v (v_fieldB 3 Try.underlying27 rfl rfl fz25 rfl) rfl ?_ | refine op_v (v_fieldI 3 Try.underlying27 rfl rfl fz25 rfl (by assumption)) rfl ?_ | refine op_v (v_field Try.underlying27 rfl fz25 rfl rfl) rfl ?_
        refine op_v (v_loadA ty25 rfl rfl) rfl ?_
        refine op_call pl19 rfl rfl ((KCompare_does (hg.mono Imm.leA) (hol.mono Imm.leA) (hor.mono Imm.leA) hz3 hz4)) Parts.none ?_
        rintro v41 I41 _ hI41 ⟨rfl, rfl⟩
        rw [if_pos hw, hw]
        refine op_v (v_move rfl) rfl ?_
        refine op_v (v_extract rfl rfl) rfl ?_
        refine op_v (v_extract rfl rfl) rfl ?_
        refine op_v (v_assign rfl) rfl ?_
        refine op_v (v_assign rfl) rfl ?_
        refine ops_nil ?_
        refine post_next ?_
        refine code_seq ?_
        refine code_region ?_
        refine op_v (v_move rfl) rfl ?_
        refine op_v (v_loadA ty27 rfl rfl) rfl ?_
        refine op_call pl16 rfl rfl ((LOrient_does (hg.mono Imm.leA) (hO.mono Imm.leA) hz3 hz4)) Parts.none ?_
        rintro v47 I47 _ hI47 ⟨⟨v47o, rfl, hv47⟩, rfl⟩
        rw [hlo, if_pos rfl, or2_twice] at hv47
        rw [hlo]
        obtain ⟨pa, pc, pd, pe, rfl, hpl, hpr⟩ := hv47
        have hP : RepL I47 _ (or2 gs x) := ⟨pa, pc, pd, pe, rfl, hpl, hpr⟩
        refine op_v (v_move rfl) rfl ?_
        refine op_v (v_extract rfl rfl) rfl ?_
        refine op_v (v_extract rfl rfl) rfl ?_
        refine o_alloc z27 rfl rfl (fun b9 => ?_)
        refine o_store ty27 rfl rfl rfl rfl rfl (by repeat (first | exact Swap.here | apply Swap.there)) rfl ?_
        refine op_v (v_assign rfl) rfl ?_
        refine ops_nil ?_
        refine post_next ?_
        refine code_seq ?_
        refine code_region ?_
        refine op_call pl17 rfl rfl ((awake9_does _)) Parts.none ?_
        rintro _ I50 _ hI50 ⟨rfl, rfl⟩
        refine op_v (v_move rfl) rfl ?_
        first
          | (refine op_want rfl rfl ?_
             refine op_v (v_loadA ty27 rfl rfl) rfl ?_)
          | (refine op_skip rfl rfl (by simp [undef]) rfl ?_)
        first
          | (refine op_want rfl rfl ?_
             refine op_v (v_loadA ty27 rfl rfl) rfl ?_)
          | (refine op_skip rfl rfl (by simp [undef]) rfl ?_)
        first
          | (refine op_want rfl rfl ?_
             refine op_call pl20 rfl rfl ((LSame_does (hO.mono Imm.leA) (ha0.mono Imm.leA) hz3 hz4 hz1 hz2)) Parts.none ?_
             rintro _ I54 _ hI54 ⟨rfl, rfl⟩
             rw [or2_same])
          | (refine op_skip rfl rfl (by simp [undef]) rfl ?_)
        first | refine op_v (v_pickt rfl rfl) rfl ?_ | refine op_v (v_pickf rfl rfl) rfl ?_ | refine op_v (v_pickb rfl rfl rfl) rfl ?_
        refine op_v (v_move rfl) rfl ?_
        first
          | (refine op_want rfl rfl ?_
             refine op_v (v_move rfl) rfl ?_)
          | (refine op_skip rfl rfl (by simp [undef]) rfl ?_)
        first
          | (refine op_want rfl rfl ?_
             first | refine op_v (v_cmptA rfl rfl rfl) rfl ?_ | refine op_v (v_cmpfA rfl rfl rfl) rfl ?_ | refine op_v (v_cmp rfl rfl rfl) rfl ?_)
          | (refine op_skip rfl rfl (by simp [undef]) rfl ?_)
        first | refine op_v (v_pickt rfl rfl) rfl ?_ | refine op_v (v_pickf rfl rfl) rfl ?_ | refine op_v (v_pickb rfl rfl rfl) rfl ?_
        refine op_v (v_move rfl) rfl ?_
        first
          | (refine op_want rfl rfl ?_
             refine op_v (v_move rfl) rfl ?_)
          | (refine op_skip rfl rfl (by simp [undef]) rfl ?_)
        first
          | (refine op_want rfl rfl ?_
             first | refine op_v (v_cmptA rfl rfl rfl) rfl ?_ | refine op_v (v_cmpfA rfl rfl rfl) rfl ?_ | refine op_v (v_cmp rfl rfl rfl) rfl ?_)
          | (refine op_skip rfl rfl (by simp [undef]) rfl ?_)
        first | refine op_v (v_pickt rfl rfl) rfl ?_ | refine op_v (v_pickf rfl rfl) rfl ?_ | refine op_v (v_pickb rfl rfl rfl) rfl ?_
        refine op_v (v_move rfl) rfl ?_
        first
          | (refine op_want rfl rfl ?_
             refine op_v (v_move rfl) rfl ?_)
          | (refine op_skip rfl rfl (by simp [undef]) rfl ?_)
        first
          | (refine op_want rfl rfl ?_
             first | refine op_v (v_cmptA rfl rfl rfl) rfl ?_ | refine op_v (v_cmpfA rfl rfl rfl) rfl ?_ | refine op_v (v_cmp rfl rfl rfl) rfl ?_)
          | (refine op_skip rfl rfl (by simp [undef]) rfl ?_)
        first | refine op_v (v_pickt rfl rfl) rfl ?_ | refine op_v (v_pickf rfl rfl) rfl ?_ | refine op_v (v_pickb rfl rfl rfl) rfl ?_
        refine op_v (v_move rfl) rfl ?_
        first
          | (refine op_want rfl rfl ?_
             refine op_v (v_loadA ty27 rfl rfl) rfl ?_)
          | (refine op_skip rfl rfl (by simp [undef]) rfl ?_)
        first
          | (refine op_want rfl rfl ?_
             refine op_v (v_loadA ty27 rfl rfl) rfl ?_)
          | (refine op_skip rfl rfl (by simp [undef]) rfl ?_)
        first
          | (refine op_want rfl rfl ?_
             refine op_call pl21 rfl rfl ((Exact_does (hP.mono Imm.leA) (hO.mono Imm.leA) hz3 hz4 hz3 hz4)) Parts.none ?_
             rintro _ I71 _ hI71 ⟨rfl, rfl⟩
             rw [exact_self])
          | (refine op_skip rfl rfl (by simp [undef]) rfl ?_)
        first | refine op_v (v_pickt rfl rfl) rfl ?_ | refine op_v (v_pickf rfl rfl) rfl ?_ | refine op_v (v_pickb rfl rfl rfl) rfl ?_
        refine op_v (v_assign rfl) rfl ?_
        refine ops_nil ?_
        refine post_next ?_
        refine code_ret ?_
        refine post_ret (rs := [.tmp 4]) rfl (List.Perm.refl _) (.cons (.tmp rfl) .nil) (List.nil_sublist _) ?_
        exact ⟨rfl, rfl⟩
    · have e2' : fewL x = false := by simpa using e2
      rw [e2']
      first
        | (refine op_want rfl rfl ?_
           refine op_v (v_not rfl) rfl ?_)
        | (refine op_skip rfl rfl (by simp [undef]) rfl ?_)
      first | refine op_v (v_pickt rfl rfl) rfl ?_ | refine op_v (v_pickf rfl rfl) rfl ?_ | refine op_v (v_pickb rfl rfl rfl) rfl ?_
      refine ops_nil ?_
      refine post_next ?_
      refine code_cond_t rfl ?_
      refine code_seq ?_
      refine code_region ?_
      refine op_v (v_assign rfl) rfl ?_
      refine ops_nil ?_
      refine post_next ?_
      refine code_ret ?_
      refine post_ret_then ?_
      refine post_ret (rs := [.tmp 4]) rfl (List.Perm.refl _) (.cons (.tmp rfl) .nil) (List.nil_sublist _) ?_
      exact ⟨rfl, rfl⟩
  · have e1' : fewG gs = false := by simpa using e1
    rw [e1']
    refine op_v (v_not rfl) rfl ?_
    refine op_v (v_move rfl) rfl ?_
    first
      | (refine op_want rfl rfl ?_
         refine op_v (v_loadA ty27 rfl rfl) rfl ?_)
      | (refine op_skip rfl rfl (by simp [undef]) rfl ?_)
    first
      | (refine op_want rfl rfl ?_
         refine op_call pl15 rfl rfl ((FewL_does (ha0.mono Imm.leA))) Parts.none ?_
         rintro v16 I16 _ hI16 ⟨rfl, rfl⟩)
      | (refine op_skip rfl rfl (by simp [undef]) rfl ?_)
    first
      | (refine op_want rfl rfl ?_
         refine op_v (v_not rfl) rfl ?_)
      | (refine op_skip rfl rfl (by simp [undef]) rfl ?_)
    first | refine op_v (v_pickt rfl rfl) rfl ?_ | refine op_v (v_pickf rfl rfl) rfl ?_ | refine op_v (v_pickb rfl rfl rfl) rfl ?_
    refine ops_nil ?_
    refine post_next ?_
    refine code_cond_t rfl ?_
    refine code_seq ?_
    refine code_region ?_
    refine op_v (v_assign rfl) rfl ?_
    refine ops_nil ?_
    refine post_next ?_
    refine code_ret ?_
    refine post_ret_then ?_
    refine post_ret (rs := [.tmp 4]) rfl (List.Perm.refl _) (.cons (.tmp rfl) .nil) (List.nil_sublist _) ?_
    exact ⟨rfl, rfl⟩
end Go.Proofs.Ytegceppoioeeaaa
