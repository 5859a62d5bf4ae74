/- Walk: what is subsumed, and what is left of a cut, in worlds: the statement. -/
import Derived.Test.YtdbadicpbmndbaaZ5
set_option linter.unusedVariables false
set_option linter.unusedSimpArgs false
set_option linter.unnecessarySimpa false
/- short -/
namespace Go.Proofs.Ytdbadicpbmndbaa
open Go Lg

theorem sides_eraseL : ∀ (d : List Li) (n : Nat), sizeL (sidesL (d.eraseIdx n)) ≤ sizeL (sidesL d)
  | [], n => by simp
  | x :: r, 0 => by
    show sizeL (sidesL r) ≤ sizeL (x.l :: x.r :: sidesL r)
    simp only [sizeL]; omega
  | x :: r, n + 1 => by
    have := sides_eraseL r n
    show sizeL (x.l :: x.r :: sidesL (r.eraseIdx n)) ≤ sizeL (x.l :: x.r :: sidesL r)
    simp only [sizeL]; omega
theorem vars_erase (d : List Li) (n : Nat) : (uvL [] (sidesL (d.eraseIdx n))).length ≤ (uvL [] (sidesL d)).length := by
  refine List.Nodup.length_le_of_subset (uvL_nodup _ _ List.nodup_nil) fun v hv => ?_
  rcases (uvL_mem _ _ _).1 hv with h | ⟨k, hk, h⟩
  · cases h
  · obtain ⟨t, ht, hkt⟩ := List.mem_flatMap.1 hk
    obtain ⟨x, hx, e⟩ := List.mem_flatMap.1 ht
    exact (uvL_mem _ _ _).2 (.inr ⟨k, List.mem_flatMap.2 ⟨t, List.mem_flatMap.2 ⟨x, List.mem_of_mem_eraseIdx hx, e⟩, hkt⟩, h⟩)
theorem SubsumeHolds_does {I : Imm} {vg vw vc vd : Value} {gs : List Sy} {w : Wd} {c d : List Li} (hg : RepG I vg gs) (hw : RepW I vw w) (hc : RepC I vc c) (hd : RepC I vd d) :
    Does Try.prog 3 [vg, vw, vc, vd] I [] (fun v I' δ' => v = .bool true ∧ δ' = []) := by
  have hw0 := hw
  obtain ⟨A, wc, rfl, _, _⟩ := hw.open
  obtain ⟨cA, cC, hsh⟩ := RepE.shape hc
  subst hsh
  obtain ⟨dA, dC, xd, hsh, hcd, hbd, hcelld, hrowd⟩ := id hd
  subst hsh
  have hdx := hrowd.length
  refine Does.intro Try.func3 rfl Try.ntmps3 rfl fun w0 => ?_
  refine code_seq ?_
  refine code_region ?_
  refine o_box rfl rfl rfl (fun b5 => ?_)
  refine op_v (v_assign rfl) rfl ?_
  refine ops_nil ?_
  refine post_next ?_
  refine code_seq ?_
  refine code_seq ?_
  refine code_region ?_
  refine op_v (v_move rfl) rfl ?_
  refine op_v (v_move rfl) rfl ?_
  refine op_call pl13 rfl rfl ((few15_does (hc.mono Imm.leA) (hd.mono Imm.leA))) Parts.none ?_
  rintro v17 I17 _ hI17 ⟨⟨b17, rfl, hb17⟩, rfl⟩
  by_cases h18 : b17 = true
  · subst h18
    have hsc := (hb17 rfl).1.smM
    have hsd := (hb17 rfl).2.smM
    have hzc := (hb17 rfl).1.2
    have hzd := (hb17 rfl).2.2
    have hsc1 := (hb17 rfl).1.sm
    have hsd1 := (hb17 rfl).2.sm
    refine op_v (v_not rfl) rfl ?_
    refine op_v (v_move rfl) rfl ?_
    first
      | (refine op_want rfl rfl ?_
         refine op_v (v_move rfl) rfl ?_)
      | (refine op_skip rfl rfl (by simp [undef]) rfl ?_)
    first
      | (refine op_want rfl rfl ?_
         refine op_call pl14 rfl rfl ((FewG_does (hg.mono Imm.leA))) Parts.none ?_
         rintro v21 I21 _ hI21 ⟨rfl, rfl⟩)
      | (refine op_skip rfl rfl (by simp [undef]) rfl ?_)
    by_cases h22 : fewG gs = true
    · rw [h22]
      first
        | (refine op_want rfl rfl ?_
           refine op_v (v_not rfl) rfl ?_)
        | (refine op_skip rfl rfl (by simp [undef]) rfl ?_)
      first | refine op_v (v_pickt rfl rfl) rfl ?_ | refine op_v (v_pickf rfl rfl) rfl ?_ | refine op_v (v_pickb rfl rfl rfl) rfl ?_
      refine op_v (v_move rfl) rfl ?_
      first
        | (refine op_want rfl rfl ?_
           refine op_v (v_loadA ty25 rfl rfl) rfl ?_)
        | (refine op_skip rfl rfl (by simp [undef]) rfl ?_)
      first
        | (refine op_want rfl rfl ?_
           refine op_call pl15 rfl rfl ((WFew_does (hw0.mono Imm.leA))) Parts.none ?_
           rintro v26 I26 _ hI26 ⟨⟨b26, rfl⟩, rfl⟩)
        | (refine op_skip rfl rfl (by simp [undef]) rfl ?_)
      by_cases h27 : b26 = true
      · subst h27
        first
          | (refine op_want rfl rfl ?_
             refine op_v (v_not rfl) rfl ?_)
          | (refine op_skip rfl rfl (by simp [undef]) rfl ?_)
        first | refine op_v (v_pickt rfl rfl) rfl ?_ | refine op_v (v_pickf rfl rfl) rfl ?_ | refine op_v (v_pickb rfl rfl rfl) rfl ?_
        refine ops_nil ?_
        refine post_next ?_
        refine code_cond_f rfl ?_
        refine code_skip ?_
        refine post_next ?_
        refine code_seq ?_
        refine code_region ?_
        refine op_v (v_move rfl) rfl ?_
        refine op_v (v_move rfl) rfl ?_
        refine op_call pl16 rfl rfl ((Subsumes_does (hc.mono Imm.leA) (hd.mono Imm.leA) hsc hsd)) Parts.none ?_
        rintro v32 I32 _ hI32 ⟨⟨q32, rfl, hq32⟩, rfl⟩
        refine op_v (v_move rfl) rfl ?_
        refine op_v (v_extract rfl rfl) rfl ?_
        refine op_v (v_extract rfl rfl) rfl ?_
        refine op_v (v_assign rfl) rfl ?_
        refine op_v (v_assign rfl) rfl ?_
        refine ops_nil ?_
        refine post_next ?_
        refine code_seq ?_
        refine code_region ?_
        refine op_v (v_move rfl) rfl ?_
        refine op_v (v_move rfl) rfl ?_
        refine op_call pl17 rfl rfl ((Cut_does (hc.mono Imm.leA) (hd.mono Imm.leA) hsc hsd)) Parts.none ?_
        rintro v38 I38 _ hI38 ⟨hcut, rfl⟩
        obtain ⟨k, q38, hsh, hkq⟩ := hcut.cases
        subst hsh
        refine op_v (v_move rfl) rfl ?_
        refine op_v (v_extract rfl rfl) rfl ?_
        refine op_v (v_extract rfl rfl) rfl ?_
        refine op_v (v_extract rfl rfl) rfl ?_
        refine op_v (v_assign rfl) rfl ?_
        refine op_v (v_assign rfl) rfl ?_
        refine op_v (v_assign rfl) rfl ?_
        refine ops_nil ?_
        refine post_next ?_
        refine code_seq ?_
        refine code_seq ?_
        refine code_region ?_
        refine op_v (v_move rfl) rfl ?_
        by_cases h43 : wrE c d ≠ 0
        · have hx : q32 = false := by cases hq : q32; rfl; exact absurd (hq32.1 hq).1 h43
          have hy : q38 = false := by cases hq : q38; rfl; exact absurd (hkq hq).1 h43
          subst hx
          subst hy
          first | refine op_v (v_cmptA rfl rfl rfl) rfl ?_ | refine op_v (v_cmpfA rfl rfl rfl) rfl ?_ | refine op_v (v_cmp rfl rfl rfl) rfl ?_
          refine op_v (v_move rfl) rfl ?_
          first
            | (refine op_want rfl rfl ?_
               refine op_v (v_move rfl) rfl ?_)
            | (refine op_skip rfl rfl (by simp [undef]) rfl ?_)
          first
            | (refine op_want rfl rfl ?_
               first | refine op_v (v_cmptA rfl rfl rfl) rfl ?_ | refine op_v (v_cmpfA rfl rfl rfl) rfl ?_ | refine op_v (v_cmp rfl rfl rfl) rfl ?_)
            | (refine op_skip rfl rfl (by simp [undef]) rfl ?_)
          first | refine op_v (v_pickt rfl rfl) rfl ?_ | refine op_v (v_pickf rfl rfl) rfl ?_ | refine op_v (v_pickb rfl rfl rfl) rfl ?_
          refine ops_nil ?_
          refine post_next ?_
          refine code_cond_t rfl ?_
          refine code_seq ?_
          refine code_region ?_
          refine op_call pl18 rfl rfl ((awake15_does _)) Parts.none ?_
          rintro v48 I48 _ hI48 ⟨rfl, rfl⟩
          refine op_v (v_move rfl) rfl ?_
          first
            | (refine op_want rfl rfl ?_
               refine op_v (v_move rfl) rfl ?_)
            | (refine op_skip rfl rfl (by simp [undef]) rfl ?_)
          first
            | (refine op_want rfl rfl ?_
               refine op_v (v_move rfl) rfl ?_)
            | (refine op_skip rfl rfl (by simp [undef]) rfl ?_)
          first
            | (refine op_want rfl rfl ?_
               refine op_v (v_cmpt rfl rfl rfl rfl) rfl ?_)
            | (refine op_skip rfl rfl (by simp [undef]) rfl ?_)
          first | refine op_v (v_pickt rfl rfl) rfl ?_ | refine op_v (v_pickf rfl rfl) rfl ?_ | refine op_v (v_pickb rfl rfl rfl) rfl ?_
          refine op_v (v_move rfl) rfl ?_
          first
            | (refine op_want rfl rfl ?_
               refine op_v (v_move rfl) rfl ?_)
            | (refine op_skip rfl rfl (by simp [undef]) rfl ?_)
          first
            | (refine op_want rfl rfl ?_
               refine op_v (v_not rfl) rfl ?_)
            | (refine op_skip rfl rfl (by simp [undef]) rfl ?_)
          first | refine op_v (v_pickt rfl rfl) rfl ?_ | refine op_v (v_pickf rfl rfl) rfl ?_ | refine op_v (v_pickb rfl rfl rfl) rfl ?_
          refine op_v (v_move rfl) rfl ?_
          first
            | (refine op_want rfl rfl ?_
               refine op_v (v_move rfl) rfl ?_)
            | (refine op_skip rfl rfl (by simp [undef]) rfl ?_)
          first
            | (refine op_want rfl rfl ?_
               refine op_v (v_not rfl) rfl ?_)
            | (refine op_skip rfl rfl (by simp [undef]) rfl ?_)
          first | refine op_v (v_pickt rfl rfl) rfl ?_ | refine op_v (v_pickf rfl rfl) rfl ?_ | refine op_v (v_pickb rfl rfl rfl) rfl ?_
          refine op_v (v_assign rfl) rfl ?_
          refine ops_nil ?_
          refine post_next ?_
          refine code_ret ?_
          refine post_ret_then ?_
          refine post_ret (rs := [.tmp 8]) rfl (List.Perm.refl _) (.cons (.tmp rfl) .nil) (List.nil_sublist _) ?_
          exact ⟨rfl, rfl⟩
        · first | refine op_v (v_cmptA rfl rfl rfl) rfl ?_ | refine op_v (v_cmpfA rfl rfl rfl) rfl ?_ | refine op_v (v_cmp rfl rfl rfl) rfl ?_
          refine op_v (v_move rfl) rfl ?_
          first
            | (refine op_want rfl rfl ?_
               refine op_v (v_move rfl) rfl ?_)
            | (refine op_skip rfl rfl (by simp [undef]) rfl ?_)
          first
            | (refine op_want rfl rfl ?_
               refine op_v (v_cmpf rfl rfl rfl (by omega)) rfl ?_)
            | (refine op_skip rfl rfl (by simp [undef]) rfl ?_)
          first | refine op_v (v_pickt rfl rfl) rfl ?_ | refine op_v (v_pickf rfl rfl) rfl ?_ | refine op_v (v_pickb rfl rfl rfl) rfl ?_
          refine ops_nil ?_
          refine post_next ?_
          refine code_cond_f rfl ?_
          refine code_skip ?_
          refine post_next ?_
          refine code_seq ?_
          refine code_seq ?_
          refine code_draw (.fl 0 (.fl 1 (.ef 2 (.fl 3 (.fl 4 (.fl 5 (.fl 6 (.ef 7 (.fl 8 (.fl 9 (.fl 10 (.fl 11 (.fl 12 (.ef 13 (.fl 14 (.fl 15 (.fl 16 (.fl 17 (.fl 18 (.fl 20 (.fl 21 (.ef 19 (.ef 22 (.fl 23 (.fl 24 (.fl 25 (.fl 26 (.fl 27 (.fl 28 (.ef 29 (.fl 30 (.fl 31 .done)))))))))))))))))))))))))))))))) (fun _ => _) mixed (by kernel_rfl) (by kernel_rfl) (fun _ => (List.Sublist.refl _)) ?_
          refine e_fl rfl rfl (fun hs_ => PF.mk rfl (v_move rfl) hs_) ?_
          refine e_fl rfl rfl (fun hs_ => PF.mk rfl (v_loadA ty25 rfl rfl) hs_) ?_
          refine e_eff rfl (by intro cs b hc; cases hc) (by intro c hc; cases hc) ?_
          refine op_call pl19 rfl rfl ((WRight_does (hg.mono Imm.leA) (hw0.mono Imm.leA))) Parts.none ?_
          rintro v64 I64 _ hI64 ⟨⟨b64, rfl, hb64⟩, rfl⟩
          refine ops_nil ?_
          refine e_next rfl (side_nil (by kernel_rfl)) ?_
          by_cases h65 : b64 = true
          · subst h65
            have hR := hb64 rfl
            have hlo := hR.lo
            have hhi := hR.hi
            refine e_fl rfl rfl (fun hs_ => PF.mk rfl (v_not rfl) hs_) ?_
            refine e_fl rfl rfl (fun hs_ => PF.mk rfl (v_move rfl) hs_) ?_
            first | refine e_fl rfl rfl (fun hs_ => PF.mkg rfl rfl rfl (v_move rfl) hs_) ?_ | refine e_fl rfl rfl (fun hs_ => PF.mks rfl (by intro c hc; cases hc) rfl rfl (by simp [undef]) hs_) ?_
            first | refine e_fl rfl rfl (fun hs_ => PF.mkg rfl rfl rfl (v_move rfl) hs_) ?_ | refine e_fl rfl rfl (fun hs_ => PF.mks rfl (by intro c hc; cases hc) rfl rfl (by simp [undef]) hs_) ?_
            refine e_eff rfl (by intro cs b hc; cases hc) (by intro c hc; cases hc) ?_
            first
              | (refine op_want rfl rfl ?_
                 refine op_call pl20 rfl rfl ((RCheck10_does (hg.mono Imm.leA) (hc.mono Imm.leA) hsc1)) Parts.none ?_
                 rintro v69 I69 _ hI69 ⟨rfl, rfl⟩)
              | (refine op_skip rfl rfl (by simp [undef]) rfl ?_)
            refine ops_nil ?_
            refine e_next rfl side_allA ?_
            by_cases h70 : chkC gs c ≠ 0
            · first | refine e_fl rfl rfl (fun hs_ => PF.mkg rfl rfl rfl (v_cmptA rfl rfl rfl) hs_) ?_ | refine e_fl rfl rfl (fun hs_ => PF.mkg rfl rfl rfl (v_cmpfA rfl rfl rfl) hs_) ?_ | refine e_fl rfl rfl (fun hs_ => PF.mkg rfl rfl rfl (v_cmp rfl rfl rfl) hs_) ?_ | refine e_fl rfl rfl (fun hs_ => PF.mks rfl (by intro c hc; cases hc) rfl rfl (by simp [undef]) hs_) ?_
              first | refine e_fl rfl rfl (fun hs_ => PF.mk rfl (v_pickt rfl rfl) hs_) ?_ | refine e_fl rfl rfl (fun hs_ => PF.mk rfl (v_pickf rfl rfl) hs_) ?_ | refine e_fl rfl rfl (fun hs_ => PF.mk rfl (v_pickb rfl rfl rfl) hs_) ?_
              refine e_fl rfl rfl (fun hs_ => PF.mk rfl (v_move rfl) hs_) ?_
              first | refine e_fl rfl rfl (fun hs_ => PF.mkg rfl rfl rfl (v_move rfl) hs_) ?_ | refine e_fl rfl rfl (fun hs_ => PF.mks rfl (by intro c hc; cases hc) rfl rfl (by simp [undef]) hs_) ?_
              first | refine e_fl rfl rfl (fun hs_ => PF.mkg rfl rfl rfl (v_move rfl) hs_) ?_ | refine e_fl rfl rfl (fun hs_ => PF.mks rfl (by intro c hc; cases hc) rfl rfl (by simp [undef]) hs_) ?_
              refine e_eff rfl (by intro cs b hc; cases hc) (by intro c hc; cases hc) ?_
              first
                | (refine op_want rfl rfl ?_
                   refine op_call pl20 rfl rfl ((RCheck10_does (hg.mono Imm.leA) (hd.mono Imm.leA) hsd1)) Parts.none ?_
                   rintro v75 I75 _ hI75 ⟨rfl, rfl⟩)
                | (refine op_skip rfl rfl (by simp [undef]) rfl ?_)
              refine ops_nil ?_
              refine e_next rfl side_allA ?_
              first | refine e_fl rfl rfl (fun hs_ => PF.mkg rfl rfl rfl (v_cmptA rfl rfl rfl) hs_) ?_ | refine e_fl rfl rfl (fun hs_ => PF.mkg rfl rfl rfl (v_cmpfA rfl rfl rfl) hs_) ?_ | refine e_fl rfl rfl (fun hs_ => PF.mkg rfl rfl rfl (v_cmp rfl rfl rfl) hs_) ?_ | refine e_fl rfl rfl (fun hs_ => PF.mks rfl (by intro c hc; cases hc) rfl rfl (by simp [undef]) hs_) ?_
              first | refine e_fl rfl rfl (fun hs_ => PF.mk rfl (v_pickt rfl rfl) hs_) ?_ | refine e_fl rfl rfl (fun hs_ => PF.mk rfl (v_pickf rfl rfl) hs_) ?_ | refine e_fl rfl rfl (fun hs_ => PF.mk rfl (v_pickb rfl rfl rfl) hs_) ?_
              refine e_fl rfl rfl (fun hs_ => PF.mk rfl (v_move rfl) hs_) ?_
              first | refine e_fl rfl rfl (fun hs_ => PF.mkg rfl rfl rfl (v_loadA ty25 rfl rfl) hs_) ?_ | refine e_fl rfl rfl (fun hs_ => PF.mks rfl (by intro c hc; cases hc) rfl rfl (by simp [undef]) hs_) ?_
              first | refine e_fl rfl rfl (fun hs_ => PF.mkg rfl rfl rfl (v_move rfl) hs_) ?_ | refine e_fl rfl rfl (fun hs_ => PF.mks rfl (by intro c hc; cases hc) rfl rfl (by simp [undef]) hs_) ?_
              first | refine e_fl rfl rfl (fun hs_ => PF.mkg rfl rfl rfl (v_loadA ty25 rfl rfl) hs_) ?_ | refine e_fl rfl rfl (fun hs_ => PF.mks rfl (by intro c hc; cases hc) rfl rfl (by simp [undef]) hs_) ?_
              first | refine e_fl rfl rfl (fun hs_ => PF.mkg rfl rfl rfl (v_move rfl) hs_) ?_ | refine e_fl rfl rfl (fun hs_ => PF.mks rfl (by intro c hc; cases hc) rfl rfl (by simp [undef]) hs_) ?_
              refine e_eff rfl (by intro cs b hc; cases hc) (by intro c hc; cases hc) ?_
              first
                | (refine op_want rfl rfl ?_
                   refine op_call pl21 rfl rfl ((WMany_does (hw0.mono Imm.leA) hlo hhi (hc.mono Imm.leA) (by omega))) Parts.none ?_
                   rintro v81 I81 _ hI81 ⟨⟨m81, rfl, hm1, hm2, hm3⟩, rfl⟩)
                | (refine op_skip rfl rfl (by simp [undef]) rfl ?_)
              refine ops_nil ?_
              refine e_next rfl side_allA ?_
              refine e_eff rfl (by intro cs b hc; cases hc) (by intro c hc; cases hc) ?_
              first
                | (refine op_want rfl rfl ?_
                   refine op_call pl21 rfl rfl ((WMany_does (hw0.mono Imm.leA) hlo hhi (hd.mono Imm.leA) (by omega))) Parts.none ?_
                   rintro v84 I84 _ hI84 ⟨⟨m84, rfl, hn1, hn2, hn3⟩, rfl⟩)
                | (refine op_skip rfl rfl (by simp [undef]) rfl ?_)
              refine ops_nil ?_
              refine e_next rfl side_allA ?_
              first | refine e_fl rfl rfl (fun hs_ => PF.mkg rfl rfl rfl (v_addb rfl rfl rfl (by omega)) hs_) ?_ | refine e_fl rfl rfl (fun hs_ => PF.mkg rfl rfl rfl (v_add rfl rfl) hs_) ?_ | refine e_fl rfl rfl (fun hs_ => PF.mks rfl (by intro c hc; cases hc) rfl rfl (by simp [undef]) hs_) ?_
              first | refine e_fl rfl rfl (fun hs_ => PF.mkg rfl rfl rfl (v_cmptA rfl rfl rfl) hs_) ?_ | refine e_fl rfl rfl (fun hs_ => PF.mkg rfl rfl rfl (v_cmpfA rfl rfl rfl) hs_) ?_ | refine e_fl rfl rfl (fun hs_ => PF.mkg rfl rfl rfl (v_cmp rfl rfl rfl) hs_) ?_ | refine e_fl rfl rfl (fun hs_ => PF.mks rfl (by intro c hc; cases hc) rfl rfl (by simp [undef]) hs_) ?_
              first | refine e_fl rfl rfl (fun hs_ => PF.mk rfl (v_pickt rfl rfl) hs_) ?_ | refine e_fl rfl rfl (fun hs_ => PF.mk rfl (v_pickf rfl rfl) hs_) ?_ | refine e_fl rfl rfl (fun hs_ => PF.mk rfl (v_pickb rfl rfl rfl) hs_) ?_
              refine e_fl rfl rfl (fun hs_ => PF.mk rfl (v_move rfl) hs_) ?_
              first | refine e_fl rfl rfl (fun hs_ => PF.mkg rfl rfl rfl (v_loadA ty25 rfl rfl) hs_) ?_ | refine e_fl rfl rfl (fun hs_ => PF.mks rfl (by intro c hc; cases hc) rfl rfl (by simp [undef]) hs_) ?_
              first | refine e_fl rfl rfl (fun hs_ => PF.mkg rfl rfl rfl (v_move rfl) hs_) ?_ | refine e_fl rfl rfl (fun hs_ => PF.mks rfl (by intro c hc; cases hc) rfl rfl (by simp [undef]) hs_) ?_
              refine e_eff rfl (by intro cs b hc; cases hc) (by intro c hc; cases hc) ?_
              first
                | (refine op_want rfl rfl ?_
                   refine op_call pl22 rfl rfl ((WHolds_does hR hgc (hw0.mono Imm.leA) (hc.mono Imm.leA) (by omega) (by omega))) Parts.none ?_
                   rintro v91 I91 _ hI91 ⟨⟨q91, rfl, hq91⟩, rfl⟩)
                | (refine op_skip rfl rfl (by simp [undef]) rfl ?_)
              refine ops_nil ?_
              refine e_next rfl side_allA ?_
              first | refine e_fl rfl rfl (fun hs_ => PF.mkg rfl rfl rfl (v_not rfl) hs_) ?_ | refine e_fl rfl rfl (fun hs_ => PF.mks rfl (by intro c hc; cases hc) rfl rfl (by simp [undef]) hs_) ?_
              first | refine e_fl rfl rfl (fun hs_ => PF.mk rfl (v_pickt rfl rfl) hs_) ?_ | refine e_fl rfl rfl (fun hs_ => PF.mk rfl (v_pickf rfl rfl) hs_) ?_ | refine e_fl rfl rfl (fun hs_ => PF.mk rfl (v_pickb rfl rfl rfl) hs_) ?_
              refine e_done ?_
              refine post_next ?_
              refine code_cond_t rfl ?_
              refine code_seq ?_
              refine code_region ?_
              refine op_call pl18 rfl rfl ((awake15_does _)) Parts.none ?_
              rintro v94 I94 _ hI94 ⟨rfl, rfl⟩
              refine op_v (v_assign rfl) rfl ?_
              refine ops_nil ?_
              refine post_next ?_
              refine code_ret ?_
              refine post_ret_then ?_
              refine post_ret (rs := [.tmp 8]) rfl (List.Perm.refl _) (.cons (.tmp rfl) .nil) (List.nil_sublist _) ?_
              exact ⟨rfl, rfl⟩
            · first | refine e_fl rfl rfl (fun hs_ => PF.mkg rfl rfl rfl (v_cmptA rfl rfl rfl) hs_) ?_ | refine e_fl rfl rfl (fun hs_ => PF.mkg rfl rfl rfl (v_cmpfA rfl rfl rfl) hs_) ?_ | refine e_fl rfl rfl (fun hs_ => PF.mkg rfl rfl rfl (v_cmp rfl rfl rfl) hs_) ?_ | refine e_fl rfl rfl (fun hs_ => PF.mks rfl (by intro c hc; cases hc) rfl rfl (by simp [undef]) hs_) ?_
              first | refine e_fl rfl rfl (fun hs_ => PF.mk rfl (v_pickt rfl rfl) hs_) ?_ | refine e_fl rfl rfl (fun hs_ => PF.mk rfl (v_pickf rfl rfl) hs_) ?_ | refine e_fl rfl rfl (fun hs_ => PF.mk rfl (v_pickb rfl rfl rfl) hs_) ?_
              refine e_fl rfl rfl (fun hs_ => PF.mk rfl (v_move rfl) hs_) ?_
              first | refine e_fl rfl rfl (fun hs_ => PF.mkg rfl rfl rfl (v_move rfl) hs_) ?_ | refine e_fl rfl rfl (fun hs_ => PF.mks rfl (by intro c hc; cases hc) rfl rfl (by simp [undef]) hs_) ?_
              first | refine e_fl rfl rfl (fun hs_ => PF.mkg rfl rfl rfl (v_move rfl) hs_) ?_ | refine e_fl rfl rfl (fun hs_ => PF.mks rfl (by intro c hc; cases hc) rfl rfl (by simp [undef]) hs_) ?_
              refine e_eff rfl (by intro cs b hc; cases hc) (by intro c hc; cases hc) ?_
              first
                | (refine op_want rfl rfl ?_
                   refine op_call pl20 rfl rfl ((RCheck10_does (hg.mono Imm.leA) (hd.mono Imm.leA) hsd1)) Parts.none ?_
                   rintro v75 I75 _ hI75 ⟨rfl, rfl⟩)
                | (refine op_skip rfl rfl (by simp [undef]) rfl ?_)
              refine ops_nil ?_
              refine e_next rfl side_allA ?_
              by_cases h76 : chkC gs d ≠ 0
              · first | refine e_fl rfl rfl (fun hs_ => PF.mkg rfl rfl rfl (v_cmptA rfl rfl rfl) hs_) ?_ | refine e_fl rfl rfl (fun hs_ => PF.mkg rfl rfl rfl (v_cmpfA rfl rfl rfl) hs_) ?_ | refine e_fl rfl rfl (fun hs_ => PF.mkg rfl rfl rfl (v_cmp rfl rfl rfl) hs_) ?_ | refine e_fl rfl rfl (fun hs_ => PF.mks rfl (by intro c hc; cases hc) rfl rfl (by simp [undef]) hs_) ?_
                first | refine e_fl rfl rfl (fun hs_ => PF.mk rfl (v_pickt rfl rfl) hs_) ?_ | refine e_fl rfl rfl (fun hs_ => PF.mk rfl (v_pickf rfl rfl) hs_) ?_ | refine e_fl rfl rfl (fun hs_ => PF.mk rfl (v_pickb rfl rfl rfl) hs_) ?_
                refine e_fl rfl rfl (fun hs_ => PF.mk rfl (v_move rfl) hs_) ?_
                first | refine e_fl rfl rfl (fun hs_ => PF.mkg rfl rfl rfl (v_loadA ty25 rfl rfl) hs_) ?_ | refine e_fl rfl rfl (fun hs_ => PF.mks rfl (by intro c hc; cases hc) rfl rfl (by simp [undef]) hs_) ?_
                first | refine e_fl rfl rfl (fun hs_ => PF.mkg rfl rfl rfl (v_move rfl) hs_) ?_ | refine e_fl rfl rfl (fun hs_ => PF.mks rfl (by intro c hc; cases hc) rfl rfl (by simp [undef]) hs_) ?_
                first | refine e_fl rfl rfl (fun hs_ => PF.mkg rfl rfl rfl (v_loadA ty25 rfl rfl) hs_) ?_ | refine e_fl rfl rfl (fun hs_ => PF.mks rfl (by intro c hc; cases hc) rfl rfl (by simp [undef]) hs_) ?_
                first | refine e_fl rfl rfl (fun hs_ => PF.mkg rfl rfl rfl (v_move rfl) hs_) ?_ | refine e_fl rfl rfl (fun hs_ => PF.mks rfl (by intro c hc; cases hc) rfl rfl (by simp [undef]) hs_) ?_
                refine e_eff rfl (by intro cs b hc; cases hc) (by intro c hc; cases hc) ?_
                first
                  | (refine op_want rfl rfl ?_
                     refine op_call pl21 rfl rfl ((WMany_does (hw0.mono Imm.leA) hlo hhi (hc.mono Imm.leA) (by omega))) Parts.none ?_
                     rintro v81 I81 _ hI81 ⟨⟨m81, rfl, hm1, hm2, hm3⟩, rfl⟩)
                  | (refine op_skip rfl rfl (by simp [undef]) rfl ?_)
                refine ops_nil ?_
                refine e_next rfl side_allA ?_
                refine e_eff rfl (by intro cs b hc; cases hc) (by intro c hc; cases hc) ?_
                first
                  | (refine op_want rfl rfl ?_
                     refine op_call pl21 rfl rfl ((WMany_does (hw0.mono Imm.leA) hlo hhi (hd.mono Imm.leA) (by omega))) Parts.none ?_
                     rintro v84 I84 _ hI84 ⟨⟨m84, rfl, hn1, hn2, hn3⟩, rfl⟩)
                  | (refine op_skip rfl rfl (by simp [undef]) rfl ?_)
                refine ops_nil ?_
                refine e_next rfl side_allA ?_
                first | refine e_fl rfl rfl (fun hs_ => PF.mkg rfl rfl rfl (v_addb rfl rfl rfl (by omega)) hs_) ?_ | refine e_fl rfl rfl (fun hs_ => PF.mkg rfl rfl rfl (v_add rfl rfl) hs_) ?_ | refine e_fl rfl rfl (fun hs_ => PF.mks rfl (by intro c hc; cases hc) rfl rfl (by simp [undef]) hs_) ?_
                first | refine e_fl rfl rfl (fun hs_ => PF.mkg rfl rfl rfl (v_cmptA rfl rfl rfl) hs_) ?_ | refine e_fl rfl rfl (fun hs_ => PF.mkg rfl rfl rfl (v_cmpfA rfl rfl rfl) hs_) ?_ | refine e_fl rfl rfl (fun hs_ => PF.mkg rfl rfl rfl (v_cmp rfl rfl rfl) hs_) ?_ | refine e_fl rfl rfl (fun hs_ => PF.mks rfl (by intro c hc; cases hc) rfl rfl (by simp [undef]) hs_) ?_
                first | refine e_fl rfl rfl (fun hs_ => PF.mk rfl (v_pickt rfl rfl) hs_) ?_ | refine e_fl rfl rfl (fun hs_ => PF.mk rfl (v_pickf rfl rfl) hs_) ?_ | refine e_fl rfl rfl (fun hs_ => PF.mk rfl (v_pickb rfl rfl rfl) hs_) ?_
                refine e_fl rfl rfl (fun hs_ => PF.mk rfl (v_move rfl) hs_) ?_
                first | refine e_fl rfl rfl (fun hs_ => PF.mkg rfl rfl rfl (v_loadA ty25 rfl rfl) hs_) ?_ | refine e_fl rfl rfl (fun hs_ => PF.mks rfl (by intro c hc; cases hc) rfl rfl (by simp [undef]) hs_) ?_
                first | refine e_fl rfl rfl (fun hs_ => PF.mkg rfl rfl rfl (v_move rfl) hs_) ?_ | refine e_fl rfl rfl (fun hs_ => PF.mks rfl (by intro c hc; cases hc) rfl rfl (by simp [undef]) hs_) ?_
                refine e_eff rfl (by intro cs b hc; cases hc) (by intro c hc; cases hc) ?_
                first
                  | (refine op_want rfl rfl ?_
                     refine op_call pl22 rfl rfl ((WHolds_does hR hgc (hw0.mono Imm.leA) (hc.mono Imm.leA) (by omega) (by omega))) Parts.none ?_
                     rintro v91 I91 _ hI91 ⟨⟨q91, rfl, hq91⟩, rfl⟩)
                  | (refine op_skip rfl rfl (by simp [undef]) rfl ?_)
                refine ops_nil ?_
                refine e_next rfl side_allA ?_
                first | refine e_fl rfl rfl (fun hs_ => PF.mkg rfl rfl rfl (v_not rfl) hs_) ?_ | refine e_fl rfl rfl (fun hs_ => PF.mks rfl (by intro c hc; cases hc) rfl rfl (by simp [undef]) hs_) ?_
                first | refine e_fl rfl rfl (fun hs_ => PF.mk rfl (v_pickt rfl rfl) hs_) ?_ | refine e_fl rfl rfl (fun hs_ => PF.mk rfl (v_pickf rfl rfl) hs_) ?_ | refine e_fl rfl rfl (fun hs_ => PF.mk rfl (v_pickb rfl rfl rfl) hs_) ?_
                refine e_done ?_
                refine post_next ?_
                refine code_cond_t rfl ?_
                refine code_seq ?_
                refine code_region ?_
                refine op_call pl18 rfl rfl ((awake15_does _)) Parts.none ?_
                rintro v94 I94 _ hI94 ⟨rfl, rfl⟩
                refine op_v (v_assign rfl) rfl ?_
                refine ops_nil ?_
                refine post_next ?_
                refine code_ret ?_
                refine post_ret_then ?_
                refine post_ret (rs := [.tmp 8]) rfl (List.Perm.refl _) (.cons (.tmp rfl) .nil) (List.nil_sublist _) ?_
                exact ⟨rfl, rfl⟩
              · have hgc := (chkC_ok (Classical.not_not.1 h70)).2.2
                have hgd := (chkC_ok (Classical.not_not.1 h76)).2.2
                first | refine e_fl rfl rfl (fun hs_ => PF.mkg rfl rfl rfl (v_cmptA rfl rfl rfl) hs_) ?_ | refine e_fl rfl rfl (fun hs_ => PF.mkg rfl rfl rfl (v_cmpfA rfl rfl rfl) hs_) ?_ | refine e_fl rfl rfl (fun hs_ => PF.mkg rfl rfl rfl (v_cmp rfl rfl rfl) hs_) ?_ | refine e_fl rfl rfl (fun hs_ => PF.mks rfl (by intro c hc; cases hc) rfl rfl (by simp [undef]) hs_) ?_
                first | refine e_fl rfl rfl (fun hs_ => PF.mk rfl (v_pickt rfl rfl) hs_) ?_ | refine e_fl rfl rfl (fun hs_ => PF.mk rfl (v_pickf rfl rfl) hs_) ?_ | refine e_fl rfl rfl (fun hs_ => PF.mk rfl (v_pickb rfl rfl rfl) hs_) ?_
                refine e_fl rfl rfl (fun hs_ => PF.mk rfl (v_move rfl) hs_) ?_
                first | refine e_fl rfl rfl (fun hs_ => PF.mkg rfl rfl rfl (v_loadA ty25 rfl rfl) hs_) ?_ | refine e_fl rfl rfl (fun hs_ => PF.mks rfl (by intro c hc; cases hc) rfl rfl (by simp [undef]) hs_) ?_
                first | refine e_fl rfl rfl (fun hs_ => PF.mkg rfl rfl rfl (v_move rfl) hs_) ?_ | refine e_fl rfl rfl (fun hs_ => PF.mks rfl (by intro c hc; cases hc) rfl rfl (by simp [undef]) hs_) ?_
                first | refine e_fl rfl rfl (fun hs_ => PF.mkg rfl rfl rfl (v_loadA ty25 rfl rfl) hs_) ?_ | refine e_fl rfl rfl (fun hs_ => PF.mks rfl (by intro c hc; cases hc) rfl rfl (by simp [undef]) hs_) ?_
                first | refine e_fl rfl rfl (fun hs_ => PF.mkg rfl rfl rfl (v_move rfl) hs_) ?_ | refine e_fl rfl rfl (fun hs_ => PF.mks rfl (by intro c hc; cases hc) rfl rfl (by simp [undef]) hs_) ?_
                refine e_eff rfl (by intro cs b hc; cases hc) (by intro c hc; cases hc) ?_
                first
                  | (refine op_want rfl rfl ?_
                     refine op_call pl21 rfl rfl ((WMany_does (hw0.mono Imm.leA) hlo hhi (hc.mono Imm.leA) (by omega))) Parts.none ?_
                     rintro v81 I81 _ hI81 ⟨⟨m81, rfl, hm1, hm2, hm3⟩, rfl⟩)
                  | (refine op_skip rfl rfl (by simp [undef]) rfl ?_)
                refine ops_nil ?_
                refine e_next rfl side_allA ?_
                refine e_eff rfl (by intro cs b hc; cases hc) (by intro c hc; cases hc) ?_
                first
                  | (refine op_want rfl rfl ?_
                     refine op_call pl21 rfl rfl ((WMany_does (hw0.mono Imm.leA) hlo hhi (hd.mono Imm.leA) (by omega))) Parts.none ?_
                     rintro v84 I84 _ hI84 ⟨⟨m84, rfl, hn1, hn2, hn3⟩, rfl⟩)
                  | (refine op_skip rfl rfl (by simp [undef]) rfl ?_)
                refine ops_nil ?_
                refine e_next rfl side_allA ?_
                first | refine e_fl rfl rfl (fun hs_ => PF.mkg rfl rfl rfl (v_addb (c := ((m81 + m84 : Nat) : Int)) rfl rfl (by omega) (by omega)) hs_) ?_ | refine e_fl rfl rfl (fun hs_ => PF.mks rfl (by intro c hc; cases hc) rfl rfl (by simp [undef]) hs_) ?_
                by_cases h86 : 700 < m81 + m84
                · first | refine e_fl rfl rfl (fun hs_ => PF.mkg rfl rfl rfl (v_cmpt rfl rfl rfl (by omega)) hs_) ?_ | refine e_fl rfl rfl (fun hs_ => PF.mks rfl (by intro c hc; cases hc) rfl rfl (by simp [undef]) hs_) ?_
                  first | refine e_fl rfl rfl (fun hs_ => PF.mk rfl (v_pickt rfl rfl) hs_) ?_ | refine e_fl rfl rfl (fun hs_ => PF.mk rfl (v_pickf rfl rfl) hs_) ?_ | refine e_fl rfl rfl (fun hs_ => PF.mk rfl (v_pickb rfl rfl rfl) hs_) ?_
                  refine e_fl rfl rfl (fun hs_ => PF.mk rfl (v_move rfl) hs_) ?_
                  first | refine e_fl rfl rfl (fun hs_ => PF.mkg rfl rfl rfl (v_loadA ty25 rfl rfl) hs_) ?_ | refine e_fl rfl rfl (fun hs_ => PF.mks rfl (by intro c hc; cases hc) rfl rfl (by simp [undef]) hs_) ?_
                  first | refine e_fl rfl rfl (fun hs_ => PF.mkg rfl rfl rfl (v_move rfl) hs_) ?_ | refine e_fl rfl rfl (fun hs_ => PF.mks rfl (by intro c hc; cases hc) rfl rfl (by simp [undef]) hs_) ?_
                  refine e_eff rfl (by intro cs b hc; cases hc) (by intro c hc; cases hc) ?_
                  first
                    | (refine op_want rfl rfl ?_
                       refine op_call pl22 rfl rfl ((WHolds_does hR hgc (hw0.mono Imm.leA) (hc.mono Imm.leA) (by omega) (by omega))) Parts.none ?_
                       rintro v91 I91 _ hI91 ⟨⟨q91, rfl, hq91⟩, rfl⟩)
                    | (refine op_skip rfl rfl (by simp [undef]) rfl ?_)
                  refine ops_nil ?_
                  refine e_next rfl side_allA ?_
                  first | refine e_fl rfl rfl (fun hs_ => PF.mkg rfl rfl rfl (v_not rfl) hs_) ?_ | refine e_fl rfl rfl (fun hs_ => PF.mks rfl (by intro c hc; cases hc) rfl rfl (by simp [undef]) hs_) ?_
                  first | refine e_fl rfl rfl (fun hs_ => PF.mk rfl (v_pickt rfl rfl) hs_) ?_ | refine e_fl rfl rfl (fun hs_ => PF.mk rfl (v_pickf rfl rfl) hs_) ?_ | refine e_fl rfl rfl (fun hs_ => PF.mk rfl (v_pickb rfl rfl rfl) hs_) ?_
                  refine e_done ?_
                  refine post_next ?_
                  refine code_cond_t rfl ?_
                  refine code_seq ?_
                  refine code_region ?_
                  refine op_call pl18 rfl rfl ((awake15_does _)) Parts.none ?_
                  rintro v94 I94 _ hI94 ⟨rfl, rfl⟩
                  refine op_v (v_assign rfl) rfl ?_
                  refine ops_nil ?_
                  refine post_next ?_
                  refine code_ret ?_
                  refine post_ret_then ?_
                  refine post_ret (rs := [.tmp 8]) rfl (List.Perm.refl _) (.cons (.tmp rfl) .nil) (List.nil_sublist _) ?_
                  exact ⟨rfl, rfl⟩
                · have hpc := hm3 (by omega)
                  have hpd := hn3 (by omega)
                  first | refine e_fl rfl rfl (fun hs_ => PF.mkg rfl rfl rfl (v_cmpf rfl rfl rfl (by omega)) hs_) ?_ | refine e_fl rfl rfl (fun hs_ => PF.mks rfl (by intro c hc; cases hc) rfl rfl (by simp [undef]) hs_) ?_
                  first | refine e_fl rfl rfl (fun hs_ => PF.mk rfl (v_pickt rfl rfl) hs_) ?_ | refine e_fl rfl rfl (fun hs_ => PF.mk rfl (v_pickf rfl rfl) hs_) ?_ | refine e_fl rfl rfl (fun hs_ => PF.mk rfl (v_pickb rfl rfl rfl) hs_) ?_
                  refine e_fl rfl rfl (fun hs_ => PF.mk rfl (v_move rfl) hs_) ?_
                  first | refine e_fl rfl rfl (fun hs_ => PF.mkg rfl rfl rfl (v_loadA ty25 rfl rfl) hs_) ?_ | refine e_fl rfl rfl (fun hs_ => PF.mks rfl (by intro c hc; cases hc) rfl rfl (by simp [undef]) hs_) ?_
                  first | refine e_fl rfl rfl (fun hs_ => PF.mkg rfl rfl rfl (v_move rfl) hs_) ?_ | refine e_fl rfl rfl (fun hs_ => PF.mks rfl (by intro c hc; cases hc) rfl rfl (by simp [undef]) hs_) ?_
                  refine e_eff rfl (by intro cs b hc; cases hc) (by intro c hc; cases hc) ?_
                  first
                    | (refine op_want rfl rfl ?_
                       refine op_call pl22 rfl rfl ((WHolds_does hR hgc (hw0.mono Imm.leA) (hc.mono Imm.leA) (by omega) (by omega))) Parts.none ?_
                       rintro v91 I91 _ hI91 ⟨⟨q91, rfl, hq91⟩, rfl⟩)
                    | (refine op_skip rfl rfl (by simp [undef]) rfl ?_)
                  refine ops_nil ?_
                  refine e_next rfl side_allA ?_
                  by_cases h92 : q91 = true
                  · subst h92
                    have hHc := hq91.1 rfl
                    first | refine e_fl rfl rfl (fun hs_ => PF.mkg rfl rfl rfl (v_not rfl) hs_) ?_ | refine e_fl rfl rfl (fun hs_ => PF.mks rfl (by intro c hc; cases hc) rfl rfl (by simp [undef]) hs_) ?_
                    first | refine e_fl rfl rfl (fun hs_ => PF.mk rfl (v_pickt rfl rfl) hs_) ?_ | refine e_fl rfl rfl (fun hs_ => PF.mk rfl (v_pickf rfl rfl) hs_) ?_ | refine e_fl rfl rfl (fun hs_ => PF.mk rfl (v_pickb rfl rfl rfl) hs_) ?_
                    refine e_done ?_
                    refine post_next ?_
                    refine code_cond_f rfl ?_
                    refine code_skip ?_
                    refine post_next ?_
                    refine code_seq ?_
                    refine code_seq ?_
                    refine code_region ?_
                    by_cases h95 : q32 = true
                    · subst h95
                      have hHd := sub_holds hR hgc hgd (hq32.1 rfl).2 hHc
                      refine op_v (v_move rfl) rfl ?_
                      refine op_v (v_move rfl) rfl ?_
                      first
                        | (refine op_want rfl rfl ?_
                           refine op_v (v_loadA ty25 rfl rfl) rfl ?_)
                        | (refine op_skip rfl rfl (by simp [undef]) rfl ?_)
                      first
                        | (refine op_want rfl rfl ?_
                           refine op_v (v_move rfl) rfl ?_)
                        | (refine op_skip rfl rfl (by simp [undef]) rfl ?_)
                      first
                        | (refine op_want rfl rfl ?_
                           refine op_call pl22 rfl rfl ((WHolds_does hR hgd (hw0.mono Imm.leA) (hd.mono Imm.leA) (by omega) (by omega))) Parts.none ?_
                           rintro v99 I99 _ hI99 ⟨⟨q99, rfl, hq99⟩, rfl⟩
                           have hq1 : q99 = true := hq99.2 hHd
                           subst hq1)
                        | (refine op_skip rfl rfl (by simp [undef]) rfl ?_)
                      first
                        | (refine op_want rfl rfl ?_
                           refine op_v (v_not rfl) rfl ?_)
                        | (refine op_skip rfl rfl (by simp [undef]) rfl ?_)
                      first | refine op_v (v_pickt rfl rfl) rfl ?_ | refine op_v (v_pickf rfl rfl) rfl ?_ | refine op_v (v_pickb rfl rfl rfl) rfl ?_
                      refine op_v (v_move rfl) rfl ?_
                      by_cases h103 : q38 = true
                      · subst h103
                        obtain ⟨_, n, i, rfl, hP⟩ := hkq rfl
                        have hn : n < d.length := by obtain ⟨_, h, _⟩ := hP; exact h
                        first
                          | (refine op_want rfl rfl ?_
                             refine op_v (v_move rfl) rfl ?_)
                          | (refine op_skip rfl rfl (by simp [undef]) rfl ?_)
                        first
                          | (refine op_want rfl rfl ?_
                             refine op_v (v_move rfl) rfl ?_)
                          | (refine op_skip rfl rfl (by simp [undef]) rfl ?_)
                        first
                          | (refine op_want rfl rfl ?_
                             refine op_v (v_move rfl) rfl ?_)
                          | (refine op_skip rfl rfl (by simp [undef]) rfl ?_)
                        first
                          | (refine op_want rfl rfl ?_
                             refine op_v (v_cmpf rfl rfl rfl (by omega)) rfl ?_)
                          | (refine op_skip rfl rfl (by simp [undef]) rfl ?_)
                        first
                          | (refine op_want rfl rfl ?_
                             refine op_v (v_move rfl) rfl ?_)
                          | (refine op_skip rfl rfl (by simp [undef]) rfl ?_)
                        first
                          | (refine op_want rfl rfl ?_
                             refine op_v (v_move rfl) rfl ?_)
                          | (refine op_skip rfl rfl (by simp [undef]) rfl ?_)
                        first
                          | (refine op_want rfl rfl ?_
                             refine op_v (v_move rfl) rfl ?_)
                          | (refine op_skip rfl rfl (by simp [undef]) rfl ?_)
                        first
                          | (refine op_want rfl rfl ?_
                             refine op_v (v_len Try.underlying26 rfl) rfl ?_)
                          | (refine op_skip rfl rfl (by simp [undef]) rfl ?_)
                        first
                          | (refine op_want rfl rfl ?_
                             refine op_v (v_cmpf rfl rfl rfl (by omega)) rfl ?_)
                          | (refine op_skip rfl rfl (by simp [undef]) rfl ?_)
                        first
                          | (refine op_want rfl rfl ?_
                             first | refine op_v (v_pickt rfl rfl) rfl ?_ | refine op_v (v_pickf rfl rfl) rfl ?_ | refine op_v (v_pickb rfl rfl rfl) rfl ?_)
                          | (refine op_skip rfl rfl (by simp [undef]) rfl ?_)
                        first
                          | (refine op_want rfl rfl ?_
                             first | refine op_v (v_pickt rfl rfl) rfl ?_ | refine op_v (v_pickf rfl rfl) rfl ?_ | refine op_v (v_pickb rfl rfl rfl) rfl ?_)
                          | (refine op_skip rfl rfl (by simp [undef]) rfl ?_)
                        first | refine op_v (v_pickt rfl rfl) rfl ?_ | refine op_v (v_pickf rfl rfl) rfl ?_ | refine op_v (v_pickb rfl rfl rfl) rfl ?_
                        refine ops_nil ?_
                        refine post_next ?_
                        refine code_cond_f rfl ?_
                        refine code_skip ?_
                        refine post_next ?_
                        refine code_seq ?_
                        refine code_seq ?_
                        refine code_region ?_
                        refine op_v (v_move rfl) rfl ?_
                        refine op_v (v_not rfl) rfl ?_
                        refine op_v (v_move rfl) rfl ?_
                        first
                          | (refine op_want rfl rfl ?_
                             refine op_v (v_loadA ty25 rfl rfl) rfl ?_)
                          | (refine op_skip rfl rfl (by simp [undef]) rfl ?_)
                        first
                          | (refine op_want rfl rfl ?_
                             refine op_v (v_move rfl) rfl ?_)
                          | (refine op_skip rfl rfl (by simp [undef]) rfl ?_)
                        first
                          | (refine op_want rfl rfl ?_
                             refine op_call pl22 rfl rfl ((WHolds_does hR hgd (hw0.mono Imm.leA) (hd.mono Imm.leA) (by omega) (by omega))) Parts.none ?_
                             rintro v120 I120 _ hI120 ⟨⟨q120, rfl, hq120⟩, rfl⟩)
                          | (refine op_skip rfl rfl (by simp [undef]) rfl ?_)
                        by_cases h121 : q120 = true
                        · subst h121
                          have hHd2 := hq120.1 rfl
                          first
                            | (refine op_want rfl rfl ?_
                               refine op_v (v_not rfl) rfl ?_)
                            | (refine op_skip rfl rfl (by simp [undef]) rfl ?_)
                          first | refine op_v (v_pickt rfl rfl) rfl ?_ | refine op_v (v_pickf rfl rfl) rfl ?_ | refine op_v (v_pickb rfl rfl rfl) rfl ?_
                          refine ops_nil ?_
                          refine post_next ?_
                          refine code_cond_f rfl ?_
                          refine code_skip ?_
                          refine post_next ?_
                          refine code_seq ?_
                          refine code_region ?_
                          refine op_v (v_assign rfl) rfl ?_
                          refine ops_nil ?_
                          refine post_next ?_
                          refine code_seq ?_
                          refine code_region ?_
                          refine op_v (v_move rfl) rfl ?_
                          refine op_v (v_move rfl) rfl ?_
                          refine op_v (v_move rfl) rfl ?_
                          refine op_v (v_sliceTo Try.underlying26 sz49 rfl rfl (by omega)) rfl ?_
                          refine OpsJ.view (View.nilRow 49 5) ?_
                          refine o_append Try.underlying26 bs49 rfl rfl rfl (fun v' => by repeat (first | exact Swap.here | apply Swap.there)) (Src.ofI ((hcelld.take (n * 5)).mono Imm.leA)) ((hrowd.take n (by omega)).length.trans (by rw [List.length_take, Nat.min_eq_left (by omega)])) (hrowd.take n (by omega)).one1 (by omega) (by omega) (fun a128 c128 => ?_)
                          refine op_v (v_assign rfl) rfl ?_
                          refine ops_nil ?_
                          refine post_next ?_
                          refine code_seq ?_
                          refine code_region ?_
                          refine op_v (v_move rfl) rfl ?_
                          refine op_v (v_move rfl) rfl ?_
                          refine op_v (v_move rfl) rfl ?_
                          refine op_v (v_addb (c := ((n + 1 : Nat) : Int)) rfl rfl (by omega) (by omega)) rfl ?_
                          refine op_v (v_sliceFrom (m := n + 1) Try.underlying26 sz49 rfl rfl (by omega) hcd) rfl ?_
                          refine o_append Try.underlying26 bs49 rfl rfl rfl (fun v' => by repeat (first | exact Swap.here | apply Swap.there)) (Src.ofI ((hcelld.cut (by rw [hdx]; exact Nat.mul_le_mul_right _ hcd)).mono Imm.leA)) ((hrowd.drop (n + 1) (by omega)).length.trans (by rw [List.length_drop])) (hrowd.drop (n + 1) (by omega)).one1 (by omega) (by omega) (fun a134 c134 => ?_)
                          refine op_v (v_assign rfl) rfl ?_
                          refine ops_nil ?_
                          refine post_next ?_
                          refine code_seq ?_
                          refine code_region ?_
                          refine OpsJ.freezeRow Del.here ?_
                          rintro I134 A134 C134 hI134 hq hc134 hl134 hcells134
                          cases hq
                          have hlenr : 0 + n + (d.length - (n + 1)) = (d.eraseIdx n).length := by rw [List.length_eraseIdx]; simp [hn]; omega
                          have hrest : RepC I134 (.slice a134 (0 + n + (d.length - (n + 1))) c134) (d.eraseIdx n) := ⟨a134, c134, _, by rw [hlenr], by rw [← hlenr]; exact hc134, by rw [← hlenr]; omega, hcells134, by rw [List.eraseIdx_eq_take_drop_succ]; exact ((hrowd.take n (by omega)).app (hrowd.drop (n + 1) (by omega))).mono Imm.leA⟩
                          have hgr : ∀ x ∈ d.eraseIdx n, litG gs x = 0 := fun x hx => hgd x (List.mem_of_mem_eraseIdx hx)
                          have hzr := sides_eraseL d n
                          have hpr := npow_le (show 1 ≤ w.size.toNat by omega) (vars_erase d n)
                          refine op_call pl18 rfl rfl ((awake15_does _)) Parts.none ?_
                          rintro v135 I135 _ hI135 ⟨rfl, rfl⟩
                          refine op_v (v_move rfl) rfl ?_
                          first
                            | (refine op_want rfl rfl ?_
                               refine op_v (v_loadA ty25 rfl rfl) rfl ?_)
                            | (refine op_skip rfl rfl (by simp [undef]) rfl ?_)
                          first
                            | (refine op_want rfl rfl ?_
                               refine op_v (v_move rfl) rfl ?_)
                            | (refine op_skip rfl rfl (by simp [undef]) rfl ?_)
                          first
                            | (refine op_want rfl rfl ?_
                               refine op_call pl22 rfl rfl ((WHolds_does hR hgr (hw0.mono Imm.leA) (hrest.mono Imm.leA) (by omega) (by omega))) Parts.none ?_
                               rintro v139 I139 _ hI139 ⟨⟨q139, rfl, hq139⟩, rfl⟩
                               have hq1 : q139 = true := hq139.2 (cut_holds hR hgc hgd hP hHc hHd2)
                               subst hq1)
                            | (refine op_skip rfl rfl (by simp [undef]) rfl ?_)
                          first | refine op_v (v_pickt rfl rfl) rfl ?_ | refine op_v (v_pickf rfl rfl) rfl ?_ | refine op_v (v_pickb rfl rfl rfl) rfl ?_
                          refine op_v (v_assign rfl) rfl ?_
                          refine ops_nil ?_
                          refine post_next ?_
                          refine code_ret ?_
                          refine post_ret (rs := [.tmp 8]) rfl (List.Perm.refl _) (.cons (.tmp rfl) .nil) (List.nil_sublist _) ?_
                          exact ⟨rfl, rfl⟩
                        · have h121' : q120 = false := by simpa using h121
                          subst h121'
                          first
                            | (refine op_want rfl rfl ?_
                               refine op_v (v_not rfl) rfl ?_)
                            | (refine op_skip rfl rfl (by simp [undef]) rfl ?_)
                          first | refine op_v (v_pickt rfl rfl) rfl ?_ | refine op_v (v_pickf rfl rfl) rfl ?_ | refine op_v (v_pickb rfl rfl rfl) rfl ?_
                          refine ops_nil ?_
                          refine post_next ?_
                          refine code_cond_t rfl ?_
                          refine code_seq ?_
                          refine code_region ?_
                          refine op_call pl18 rfl rfl ((awake15_does _)) Parts.none ?_
                          rintro v123 I123 _ hI123 ⟨rfl, rfl⟩
                          refine op_v (v_assign rfl) rfl ?_
                          refine ops_nil ?_
                          refine post_next ?_
                          refine code_ret ?_
                          refine post_ret_then ?_
                          refine post_ret (rs := [.tmp 8]) rfl (List.Perm.refl _) (.cons (.tmp rfl) .nil) (List.nil_sublist _) ?_
                          exact ⟨rfl, rfl⟩
                      · have h103' : q38 = false := by simpa using h103
                        subst h103'
                        first
                          | (refine op_want rfl rfl ?_
                             refine op_v (v_move rfl) rfl ?_)
                          | (refine op_skip rfl rfl (by simp [undef]) rfl ?_)
                        first
                          | (refine op_want rfl rfl ?_
                             refine op_v (v_move rfl) rfl ?_)
                          | (refine op_skip rfl rfl (by simp [undef]) rfl ?_)
                        first
                          | (refine op_want rfl rfl ?_
                             refine op_v (v_move rfl) rfl ?_)
                          | (refine op_skip rfl rfl (by simp [undef]) rfl ?_)
                        first
                          | (refine op_want rfl rfl ?_
                             first | refine op_v (v_cmptA rfl rfl rfl) rfl ?_ | refine op_v (v_cmpfA rfl rfl rfl) rfl ?_ | refine op_v (v_cmp rfl rfl rfl) rfl ?_)
                          | (refine op_skip rfl rfl (by simp [undef]) rfl ?_)
                        first
                          | (refine op_want rfl rfl ?_
                             refine op_v (v_move rfl) rfl ?_)
                          | (refine op_skip rfl rfl (by simp [undef]) rfl ?_)
                        first
                          | (refine op_want rfl rfl ?_
                             refine op_v (v_move rfl) rfl ?_)
                          | (refine op_skip rfl rfl (by simp [undef]) rfl ?_)
                        first
                          | (refine op_want rfl rfl ?_
                             refine op_v (v_move rfl) rfl ?_)
                          | (refine op_skip rfl rfl (by simp [undef]) rfl ?_)
                        first
                          | (refine op_want rfl rfl ?_
                             refine op_v (v_len Try.underlying26 rfl) rfl ?_)
                          | (refine op_skip rfl rfl (by simp [undef]) rfl ?_)
                        first
                          | (refine op_want rfl rfl ?_
                             first | refine op_v (v_cmptA rfl rfl rfl) rfl ?_ | refine op_v (v_cmpfA rfl rfl rfl) rfl ?_ | refine op_v (v_cmp rfl rfl rfl) rfl ?_)
                          | (refine op_skip rfl rfl (by simp [undef]) rfl ?_)
                        first
                          | (refine op_want rfl rfl ?_
                             first | refine op_v (v_pickt rfl rfl) rfl ?_ | refine op_v (v_pickf rfl rfl) rfl ?_ | refine op_v (v_pickb rfl rfl rfl) rfl ?_)
                          | (refine op_skip rfl rfl (by simp [undef]) rfl ?_)
                        first
                          | (refine op_want rfl rfl ?_
                             first | refine op_v (v_pickt rfl rfl) rfl ?_ | refine op_v (v_pickf rfl rfl) rfl ?_ | refine op_v (v_pickb rfl rfl rfl) rfl ?_)
                          | (refine op_skip rfl rfl (by simp [undef]) rfl ?_)
                        first | refine op_v (v_pickt rfl rfl) rfl ?_ | refine op_v (v_pickf rfl rfl) rfl ?_ | refine op_v (v_pickb rfl rfl rfl) rfl ?_
                        refine ops_nil ?_
                        refine post_next ?_
                        refine code_cond_f rfl ?_
                        refine code_skip ?_
                        refine post_next ?_
                        refine code_seq ?_
                        refine code_seq ?_
                        refine code_region ?_
                        refine op_v (v_move rfl) rfl ?_
                        refine op_v (v_not rfl) rfl ?_
                        refine op_v (v_move rfl) rfl ?_
                        first
                          | (refine op_want rfl rfl ?_
                             refine op_v (v_loadA ty25 rfl rfl) rfl ?_)
                          | (refine op_skip rfl rfl (by simp [undef]) rfl ?_)
                        first
                          | (refine op_want rfl rfl ?_
                             refine op_v (v_move rfl) rfl ?_)
                          | (refine op_skip rfl rfl (by simp [undef]) rfl ?_)
                        first
                          | (refine op_want rfl rfl ?_
                             refine op_call pl22 rfl rfl ((WHolds_does hR hgd (hw0.mono Imm.leA) (hd.mono Imm.leA) (by omega) (by omega))) Parts.none ?_
                             rintro v120 I120 _ hI120 ⟨⟨q120, rfl, hq120⟩, rfl⟩)
                          | (refine op_skip rfl rfl (by simp [undef]) rfl ?_)
                        first
                          | (refine op_want rfl rfl ?_
                             refine op_v (v_not rfl) rfl ?_)
                          | (refine op_skip rfl rfl (by simp [undef]) rfl ?_)
                        first | refine op_v (v_pickt rfl rfl) rfl ?_ | refine op_v (v_pickf rfl rfl) rfl ?_ | refine op_v (v_pickb rfl rfl rfl) rfl ?_
                        refine ops_nil ?_
                        refine post_next ?_
                        refine code_cond_t rfl ?_
                        refine code_seq ?_
                        refine code_region ?_
                        refine op_call pl18 rfl rfl ((awake15_does _)) Parts.none ?_
                        rintro v123 I123 _ hI123 ⟨rfl, rfl⟩
                        refine op_v (v_assign rfl) rfl ?_
                        refine ops_nil ?_
                        refine post_next ?_
                        refine code_ret ?_
                        refine post_ret_then ?_
                        refine post_ret (rs := [.tmp 8]) rfl (List.Perm.refl _) (.cons (.tmp rfl) .nil) (List.nil_sublist _) ?_
                        exact ⟨rfl, rfl⟩
                    · have h95' : q32 = false := by simpa using h95
                      subst h95'
                      refine op_v (v_move rfl) rfl ?_
                      refine op_v (v_move rfl) rfl ?_
                      first
                        | (refine op_want rfl rfl ?_
                           refine op_v (v_loadA ty25 rfl rfl) rfl ?_)
                        | (refine op_skip rfl rfl (by simp [undef]) rfl ?_)
                      first
                        | (refine op_want rfl rfl ?_
                           refine op_v (v_move rfl) rfl ?_)
                        | (refine op_skip rfl rfl (by simp [undef]) rfl ?_)
                      first
                        | (refine op_want rfl rfl ?_
                           refine op_call pl22 rfl rfl ((WHolds_does hR hgd (hw0.mono Imm.leA) (hd.mono Imm.leA) (by omega) (by omega))) Parts.none ?_
                           rintro v99 I99 _ hI99 ⟨⟨q99, rfl, hq99⟩, rfl⟩)
                        | (refine op_skip rfl rfl (by simp [undef]) rfl ?_)
                      first
                        | (refine op_want rfl rfl ?_
                           refine op_v (v_not rfl) rfl ?_)
                        | (refine op_skip rfl rfl (by simp [undef]) rfl ?_)
                      first | refine op_v (v_pickt rfl rfl) rfl ?_ | refine op_v (v_pickf rfl rfl) rfl ?_ | refine op_v (v_pickb rfl rfl rfl) rfl ?_
                      refine op_v (v_move rfl) rfl ?_
                      by_cases h103 : q38 = true
                      · subst h103
                        obtain ⟨_, n, i, rfl, hP⟩ := hkq rfl
                        have hn : n < d.length := by obtain ⟨_, h, _⟩ := hP; exact h
                        first
                          | (refine op_want rfl rfl ?_
                             refine op_v (v_move rfl) rfl ?_)
                          | (refine op_skip rfl rfl (by simp [undef]) rfl ?_)
                        first
                          | (refine op_want rfl rfl ?_
                             refine op_v (v_move rfl) rfl ?_)
                          | (refine op_skip rfl rfl (by simp [undef]) rfl ?_)
                        first
                          | (refine op_want rfl rfl ?_
                             refine op_v (v_move rfl) rfl ?_)
                          | (refine op_skip rfl rfl (by simp [undef]) rfl ?_)
                        first
                          | (refine op_want rfl rfl ?_
                             refine op_v (v_cmpf rfl rfl rfl (by omega)) rfl ?_)
                          | (refine op_skip rfl rfl (by simp [undef]) rfl ?_)
                        first
                          | (refine op_want rfl rfl ?_
                             refine op_v (v_move rfl) rfl ?_)
                          | (refine op_skip rfl rfl (by simp [undef]) rfl ?_)
                        first
                          | (refine op_want rfl rfl ?_
                             refine op_v (v_move rfl) rfl ?_)
                          | (refine op_skip rfl rfl (by simp [undef]) rfl ?_)
                        first
                          | (refine op_want rfl rfl ?_
                             refine op_v (v_move rfl) rfl ?_)
                          | (refine op_skip rfl rfl (by simp [undef]) rfl ?_)
                        first
                          | (refine op_want rfl rfl ?_
                             refine op_v (v_len Try.underlying26 rfl) rfl ?_)
                          | (refine op_skip rfl rfl (by simp [undef]) rfl ?_)
                        first
                          | (refine op_want rfl rfl ?_
                             refine op_v (v_cmpf rfl rfl rfl (by omega)) rfl ?_)
                          | (refine op_skip rfl rfl (by simp [undef]) rfl ?_)
                        first
                          | (refine op_want rfl rfl ?_
                             first | refine op_v (v_pickt rfl rfl) rfl ?_ | refine op_v (v_pickf rfl rfl) rfl ?_ | refine op_v (v_pickb rfl rfl rfl) rfl ?_)
                          | (refine op_skip rfl rfl (by simp [undef]) rfl ?_)
                        first
                          | (refine op_want rfl rfl ?_
                             first | refine op_v (v_pickt rfl rfl) rfl ?_ | refine op_v (v_pickf rfl rfl) rfl ?_ | refine op_v (v_pickb rfl rfl rfl) rfl ?_)
                          | (refine op_skip rfl rfl (by simp [undef]) rfl ?_)
                        first | refine op_v (v_pickt rfl rfl) rfl ?_ | refine op_v (v_pickf rfl rfl) rfl ?_ | refine op_v (v_pickb rfl rfl rfl) rfl ?_
                        refine ops_nil ?_
                        refine post_next ?_
                        refine code_cond_f rfl ?_
                        refine code_skip ?_
                        refine post_next ?_
                        refine code_seq ?_
                        refine code_seq ?_
                        refine code_region ?_
                        refine op_v (v_move rfl) rfl ?_
                        refine op_v (v_not rfl) rfl ?_
                        refine op_v (v_move rfl) rfl ?_
                        first
                          | (refine op_want rfl rfl ?_
                             refine op_v (v_loadA ty25 rfl rfl) rfl ?_)
                          | (refine op_skip rfl rfl (by simp [undef]) rfl ?_)
                        first
                          | (refine op_want rfl rfl ?_
                             refine op_v (v_move rfl) rfl ?_)
                          | (refine op_skip rfl rfl (by simp [undef]) rfl ?_)
                        first
                          | (refine op_want rfl rfl ?_
                             refine op_call pl22 rfl rfl ((WHolds_does hR hgd (hw0.mono Imm.leA) (hd.mono Imm.leA) (by omega) (by omega))) Parts.none ?_
                             rintro v120 I120 _ hI120 ⟨⟨q120, rfl, hq120⟩, rfl⟩)
                          | (refine op_skip rfl rfl (by simp [undef]) rfl ?_)
                        by_cases h121 : q120 = true
                        · subst h121
                          have hHd2 := hq120.1 rfl
                          first
                            | (refine op_want rfl rfl ?_
                               refine op_v (v_not rfl) rfl ?_)
                            | (refine op_skip rfl rfl (by simp [undef]) rfl ?_)
                          first | refine op_v (v_pickt rfl rfl) rfl ?_ | refine op_v (v_pickf rfl rfl) rfl ?_ | refine op_v (v_pickb rfl rfl rfl) rfl ?_
                          refine ops_nil ?_
                          refine post_next ?_
                          refine code_cond_f rfl ?_
                          refine code_skip ?_
                          refine post_next ?_
                          refine code_seq ?_
                          refine code_region ?_
                          refine op_v (v_assign rfl) rfl ?_
                          refine ops_nil ?_
                          refine post_next ?_
                          refine code_seq ?_
                          refine code_region ?_
                          refine op_v (v_move rfl) rfl ?_
                          refine op_v (v_move rfl) rfl ?_
                          refine op_v (v_move rfl) rfl ?_
                          refine op_v (v_sliceTo Try.underlying26 sz49 rfl rfl (by omega)) rfl ?_
                          refine OpsJ.view (View.nilRow 49 5) ?_
                          refine o_append Try.underlying26 bs49 rfl rfl rfl (fun v' => by repeat (first | exact Swap.here | apply Swap.there)) (Src.ofI ((hcelld.take (n * 5)).mono Imm.leA)) ((hrowd.take n (by omega)).length.trans (by rw [List.length_take, Nat.min_eq_left (by omega)])) (hrowd.take n (by omega)).one1 (by omega) (by omega) (fun a128 c128 => ?_)
                          refine op_v (v_assign rfl) rfl ?_
                          refine ops_nil ?_
                          refine post_next ?_
                          refine code_seq ?_
                          refine code_region ?_
                          refine op_v (v_move rfl) rfl ?_
                          refine op_v (v_move rfl) rfl ?_
                          refine op_v (v_move rfl) rfl ?_
                          refine op_v (v_addb (c := ((n + 1 : Nat) : Int)) rfl rfl (by omega) (by omega)) rfl ?_
                          refine op_v (v_sliceFrom (m := n + 1) Try.underlying26 sz49 rfl rfl (by omega) hcd) rfl ?_
                          refine o_append Try.underlying26 bs49 rfl rfl rfl (fun v' => by repeat (first | exact Swap.here | apply Swap.there)) (Src.ofI ((hcelld.cut (by rw [hdx]; exact Nat.mul_le_mul_right _ hcd)).mono Imm.leA)) ((hrowd.drop (n + 1) (by omega)).length.trans (by rw [List.length_drop])) (hrowd.drop (n + 1) (by omega)).one1 (by omega) (by omega) (fun a134 c134 => ?_)
                          refine op_v (v_assign rfl) rfl ?_
                          refine ops_nil ?_
                          refine post_next ?_
                          refine code_seq ?_
                          refine code_region ?_
                          refine OpsJ.freezeRow Del.here ?_
                          rintro I134 A134 C134 hI134 hq hc134 hl134 hcells134
                          cases hq
                          have hlenr : 0 + n + (d.length - (n + 1)) = (d.eraseIdx n).length := by rw [List.length_eraseIdx]; simp [hn]; omega
                          have hrest : RepC I134 (.slice a134 (0 + n + (d.length - (n + 1))) c134) (d.eraseIdx n) := ⟨a134, c134, _, by rw [hlenr], by rw [← hlenr]; exact hc134, by rw [← hlenr]; omega, hcells134, by rw [List.eraseIdx_eq_take_drop_succ]; exact ((hrowd.take n (by omega)).app (hrowd.drop (n + 1) (by omega))).mono Imm.leA⟩
                          have hgr : ∀ x ∈ d.eraseIdx n, litG gs x = 0 := fun x hx => hgd x (List.mem_of_mem_eraseIdx hx)
                          have hzr := sides_eraseL d n
                          have hpr := npow_le (show 1 ≤ w.size.toNat by omega) (vars_erase d n)
                          refine op_call pl18 rfl rfl ((awake15_does _)) Parts.none ?_
                          rintro v135 I135 _ hI135 ⟨rfl, rfl⟩
                          refine op_v (v_move rfl) rfl ?_
                          first
                            | (refine op_want rfl rfl ?_
                               refine op_v (v_loadA ty25 rfl rfl) rfl ?_)
                            | (refine op_skip rfl rfl (by simp [undef]) rfl ?_)
                          first
                            | (refine op_want rfl rfl ?_
                               refine op_v (v_move rfl) rfl ?_)
                            | (refine op_skip rfl rfl (by simp [undef]) rfl ?_)
                          first
                            | (refine op_want rfl rfl ?_
                               refine op_call pl22 rfl rfl ((WHolds_does hR hgr (hw0.mono Imm.leA) (hrest.mono Imm.leA) (by omega) (by omega))) Parts.none ?_
                               rintro v139 I139 _ hI139 ⟨⟨q139, rfl, hq139⟩, rfl⟩
                               have hq1 : q139 = true := hq139.2 (cut_holds hR hgc hgd hP hHc hHd2)
                               subst hq1)
                            | (refine op_skip rfl rfl (by simp [undef]) rfl ?_)
                          first | refine op_v (v_pickt rfl rfl) rfl ?_ | refine op_v (v_pickf rfl rfl) rfl ?_ | refine op_v (v_pickb rfl rfl rfl) rfl ?_
                          refine op_v (v_assign rfl) rfl ?_
                          refine ops_nil ?_
                          refine post_next ?_
                          refine code_ret ?_
                          refine post_ret (rs := [.tmp 8]) rfl (List.Perm.refl _) (.cons (.tmp rfl) .nil) (List.nil_sublist _) ?_
                          exact ⟨rfl, rfl⟩
                        · have h121' : q120 = false := by simpa using h121
                          subst h121'
                          first
                            | (refine op_want rfl rfl ?_
                               refine op_v (v_not rfl) rfl ?_)
                            | (refine op_skip rfl rfl (by simp [undef]) rfl ?_)
                          first | refine op_v (v_pickt rfl rfl) rfl ?_ | refine op_v (v_pickf rfl rfl) rfl ?_ | refine op_v (v_pickb rfl rfl rfl) rfl ?_
                          refine ops_nil ?_
                          refine post_next ?_
                          refine code_cond_t rfl ?_
                          refine code_seq ?_
                          refine code_region ?_
                          refine op_call pl18 rfl rfl ((awake15_does _)) Parts.none ?_
                          rintro v123 I123 _ hI123 ⟨rfl, rfl⟩
                          refine op_v (v_assign rfl) rfl ?_
                          refine ops_nil ?_
                          refine post_next ?_
                          refine code_ret ?_
                          refine post_ret_then ?_
                          refine post_ret (rs := [.tmp 8]) rfl (List.Perm.refl _) (.cons (.tmp rfl) .nil) (List.nil_sublist _) ?_
                          exact ⟨rfl, rfl⟩
                      · have h103' : q38 = false := by simpa using h103
                        subst h103'
                        first
                          | (refine op_want rfl rfl ?_
                             refine op_v (v_move rfl) rfl ?_)
                          | (refine op_skip rfl rfl (by simp [undef]) rfl ?_)
                        first
                          | (refine op_want rfl rfl ?_
                             refine op_v (v_move rfl) rfl ?_)
                          | (refine op_skip rfl rfl (by simp [undef]) rfl ?_)
                        first
                          | (refine op_want rfl rfl ?_
                             refine op_v (v_move rfl) rfl ?_)
                          | (refine op_skip rfl rfl (by simp [undef]) rfl ?_)
                        first
                          | (refine op_want rfl rfl ?_
                             first | refine op_v (v_cmptA rfl rfl rfl) rfl ?_ | refine op_v (v_cmpfA rfl rfl rfl) rfl ?_ | refine op_v (v_cmp rfl rfl rfl) rfl ?_)
                          | (refine op_skip rfl rfl (by simp [undef]) rfl ?_)
                        first
                          | (refine op_want rfl rfl ?_
                             refine op_v (v_move rfl) rfl ?_)
                          | (refine op_skip rfl rfl (by simp [undef]) rfl ?_)
                        first
                          | (refine op_want rfl rfl ?_
                             refine op_v (v_move rfl) rfl ?_)
                          | (refine op_skip rfl rfl (by simp [undef]) rfl ?_)
                        first
                          | (refine op_want rfl rfl ?_
                             refine op_v (v_move rfl) rfl ?_)
                          | (refine op_skip rfl rfl (by simp [undef]) rfl ?_)
                        first
                          | (refine op_want rfl rfl ?_
                             refine op_v (v_len Try.underlying26 rfl) rfl ?_)
                          | (refine op_skip rfl rfl (by simp [undef]) rfl ?_)
                        first
                          | (refine op_want rfl rfl ?_
                             first | refine op_v (v_cmptA rfl rfl rfl) rfl ?_ | refine op_v (v_cmpfA rfl rfl rfl) rfl ?_ | refine op_v (v_cmp rfl rfl rfl) rfl ?_)
                          | (refine op_skip rfl rfl (by simp [undef]) rfl ?_)
                        first
                          | (refine op_want rfl rfl ?_
                             first | refine op_v (v_pickt rfl rfl) rfl ?_ | refine op_v (v_pickf rfl rfl) rfl ?_ | refine op_v (v_pickb rfl rfl rfl) rfl ?_)
                          | (refine op_skip rfl rfl (by simp [undef]) rfl ?_)
                        first
                          | (refine op_want rfl rfl ?_
                             first | refine op_v (v_pickt rfl rfl) rfl ?_ | refine op_v (v_pickf rfl rfl) rfl ?_ | refine op_v (v_pickb rfl rfl rfl) rfl ?_)
                          | (refine op_skip rfl rfl (by simp [undef]) rfl ?_)
                        first | refine op_v (v_pickt rfl rfl) rfl ?_ | refine op_v (v_pickf rfl rfl) rfl ?_ | refine op_v (v_pickb rfl rfl rfl) rfl ?_
                        refine ops_nil ?_
                        refine post_next ?_
                        refine code_cond_f rfl ?_
                        refine code_skip ?_
                        refine post_next ?_
                        refine code_seq ?_
                        refine code_seq ?_
                        refine code_region ?_
                        refine op_v (v_move rfl) rfl ?_
                        refine op_v (v_not rfl) rfl ?_
                        refine op_v (v_move rfl) rfl ?_
                        first
                          | (refine op_want rfl rfl ?_
                             refine op_v (v_loadA ty25 rfl rfl) rfl ?_)
                          | (refine op_skip rfl rfl (by simp [undef]) rfl ?_)
                        first
                          | (refine op_want rfl rfl ?_
                             refine op_v (v_move rfl) rfl ?_)
                          | (refine op_skip rfl rfl (by simp [undef]) rfl ?_)
                        first
                          | (refine op_want rfl rfl ?_
                             refine op_call pl22 rfl rfl ((WHolds_does hR hgd (hw0.mono Imm.leA) (hd.mono Imm.leA) (by omega) (by omega))) Parts.none ?_
                             rintro v120 I120 _ hI120 ⟨⟨q120, rfl, hq120⟩, rfl⟩)
                          | (refine op_skip rfl rfl (by simp [undef]) rfl ?_)
                        first
                          | (refine op_want rfl rfl ?_
                             refine op_v (v_not rfl) rfl ?_)
                          | (refine op_skip rfl rfl (by simp [undef]) rfl ?_)
                        first | refine op_v (v_pickt rfl rfl) rfl ?_ | refine op_v (v_pickf rfl rfl) rfl ?_ | refine op_v (v_pickb rfl rfl rfl) rfl ?_
                        refine ops_nil ?_
                        refine post_next ?_
                        refine code_cond_t rfl ?_
                        refine code_seq ?_
                        refine code_region ?_
                        refine op_call pl18 rfl rfl ((awake15_does _)) Parts.none ?_
                        rintro v123 I123 _ hI123 ⟨rfl, rfl⟩
                        refine op_v (v_assign rfl) rfl ?_
                        refine ops_nil ?_
                        refine post_next ?_
                        refine code_ret ?_
                        refine post_ret_then ?_
                        refine post_ret (rs := [.tmp 8]) rfl (List.Perm.refl _) (.cons (.tmp rfl) .nil) (List.nil_sublist _) ?_
                        exact ⟨rfl, rfl⟩
                  · have h92' : q91 = false := by simpa using h92
                    subst h92'
                    first | refine e_fl rfl rfl (fun hs_ => PF.mkg rfl rfl rfl (v_not rfl) hs_) ?_ | refine e_fl rfl rfl (fun hs_ => PF.mks rfl (by intro c hc; cases hc) rfl rfl (by simp [undef]) hs_) ?_
                    first | refine e_fl rfl rfl (fun hs_ => PF.mk rfl (v_pickt rfl rfl) hs_) ?_ | refine e_fl rfl rfl (fun hs_ => PF.mk rfl (v_pickf rfl rfl) hs_) ?_ | refine e_fl rfl rfl (fun hs_ => PF.mk rfl (v_pickb rfl rfl rfl) hs_) ?_
                    refine e_done ?_
                    refine post_next ?_
                    refine code_cond_t rfl ?_
                    refine code_seq ?_
                    refine code_region ?_
                    refine op_call pl18 rfl rfl ((awake15_does _)) Parts.none ?_
                    rintro v94 I94 _ hI94 ⟨rfl, rfl⟩
                    refine op_v (v_assign rfl) rfl ?_
                    refine ops_nil ?_
                    refine post_next ?_
                    refine code_ret ?_
                    refine post_ret_then ?_
                    refine post_ret (rs := [.tmp 8]) rfl (List.Perm.refl _) (.cons (.tmp rfl) .nil) (List.nil_sublist _) ?_
                    exact ⟨rfl, rfl⟩
          · have h65' : b64 = false := by simpa using h65
            subst h65'
            refine e_fl rfl rfl (fun hs_ => PF.mk rfl (v_not rfl) hs_) ?_
            refine e_fl rfl rfl (fun hs_ => PF.mk rfl (v_move rfl) hs_) ?_
            first | refine e_fl rfl rfl (fun hs_ => PF.mkg rfl rfl rfl (v_move rfl) hs_) ?_ | refine e_fl rfl rfl (fun hs_ => PF.mks rfl (by intro c hc; cases hc) rfl rfl (by simp [undef]) hs_) ?_
            first | refine e_fl rfl rfl (fun hs_ => PF.mkg rfl rfl rfl (v_move rfl) hs_) ?_ | refine e_fl rfl rfl (fun hs_ => PF.mks rfl (by intro c hc; cases hc) rfl rfl (by simp [undef]) hs_) ?_
            refine e_eff rfl (by intro cs b hc; cases hc) (by intro c hc; cases hc) ?_
            first
              | (refine op_want rfl rfl ?_
                 refine op_call pl20 rfl rfl ((RCheck10_does (hg.mono Imm.leA) (hc.mono Imm.leA) hsc1)) Parts.none ?_
                 rintro v69 I69 _ hI69 ⟨rfl, rfl⟩)
              | (refine op_skip rfl rfl (by simp [undef]) rfl ?_)
            refine ops_nil ?_
            refine e_next rfl side_allA ?_
            first | refine e_fl rfl rfl (fun hs_ => PF.mkg rfl rfl rfl (v_cmptA rfl rfl rfl) hs_) ?_ | refine e_fl rfl rfl (fun hs_ => PF.mkg rfl rfl rfl (v_cmpfA rfl rfl rfl) hs_) ?_ | refine e_fl rfl rfl (fun hs_ => PF.mkg rfl rfl rfl (v_cmp rfl rfl rfl) hs_) ?_ | refine e_fl rfl rfl (fun hs_ => PF.mks rfl (by intro c hc; cases hc) rfl rfl (by simp [undef]) hs_) ?_
            first | refine e_fl rfl rfl (fun hs_ => PF.mk rfl (v_pickt rfl rfl) hs_) ?_ | refine e_fl rfl rfl (fun hs_ => PF.mk rfl (v_pickf rfl rfl) hs_) ?_ | refine e_fl rfl rfl (fun hs_ => PF.mk rfl (v_pickb rfl rfl rfl) hs_) ?_
            refine e_fl rfl rfl (fun hs_ => PF.mk rfl (v_move rfl) hs_) ?_
            first | refine e_fl rfl rfl (fun hs_ => PF.mkg rfl rfl rfl (v_move rfl) hs_) ?_ | refine e_fl rfl rfl (fun hs_ => PF.mks rfl (by intro c hc; cases hc) rfl rfl (by simp [undef]) hs_) ?_
            first | refine e_fl rfl rfl (fun hs_ => PF.mkg rfl rfl rfl (v_move rfl) hs_) ?_ | refine e_fl rfl rfl (fun hs_ => PF.mks rfl (by intro c hc; cases hc) rfl rfl (by simp [undef]) hs_) ?_
            refine e_eff rfl (by intro cs b hc; cases hc) (by intro c hc; cases hc) ?_
            first
              | (refine op_want rfl rfl ?_
                 refine op_call pl20 rfl rfl ((RCheck10_does (hg.mono Imm.leA) (hd.mono Imm.leA) hsd1)) Parts.none ?_
                 rintro v75 I75 _ hI75 ⟨rfl, rfl⟩)
              | (refine op_skip rfl rfl (by simp [undef]) rfl ?_)
            refine ops_nil ?_
            refine e_next rfl side_allA ?_
            first | refine e_fl rfl rfl (fun hs_ => PF.mkg rfl rfl rfl (v_cmptA rfl rfl rfl) hs_) ?_ | refine e_fl rfl rfl (fun hs_ => PF.mkg rfl rfl rfl (v_cmpfA rfl rfl rfl) hs_) ?_ | refine e_fl rfl rfl (fun hs_ => PF.mkg rfl rfl rfl (v_cmp rfl rfl rfl) hs_) ?_ | refine e_fl rfl rfl (fun hs_ => PF.mks rfl (by intro c hc; cases hc) rfl rfl (by simp [undef]) hs_) ?_
            first | refine e_fl rfl rfl (fun hs_ => PF.mk rfl (v_pickt rfl rfl) hs_) ?_ | refine e_fl rfl rfl (fun hs_ => PF.mk rfl (v_pickf rfl rfl) hs_) ?_ | refine e_fl rfl rfl (fun hs_ => PF.mk rfl (v_pickb rfl rfl rfl) hs_) ?_
            refine e_fl rfl rfl (fun hs_ => PF.mk rfl (v_move rfl) hs_) ?_
            first | refine e_fl rfl rfl (fun hs_ => PF.mkg rfl rfl rfl (v_loadA ty25 rfl rfl) hs_) ?_ | refine e_fl rfl rfl (fun hs_ => PF.mks rfl (by intro c hc; cases hc) rfl rfl (by simp [undef]) hs_) ?_
            first | refine e_fl rfl rfl (fun hs_ => PF.mkg rfl rfl rfl (v_move rfl) hs_) ?_ | refine e_fl rfl rfl (fun hs_ => PF.mks rfl (by intro c hc; cases hc) rfl rfl (by simp [undef]) hs_) ?_
            first | refine e_fl rfl rfl (fun hs_ => PF.mkg rfl rfl rfl (v_loadA ty25 rfl rfl) hs_) ?_ | refine e_fl rfl rfl (fun hs_ => PF.mks rfl (by intro c hc; cases hc) rfl rfl (by simp [undef]) hs_) ?_
            first | refine e_fl rfl rfl (fun hs_ => PF.mkg rfl rfl rfl (v_move rfl) hs_) ?_ | refine e_fl rfl rfl (fun hs_ => PF.mks rfl (by intro c hc; cases hc) rfl rfl (by simp [undef]) hs_) ?_
            refine e_eff rfl (by intro cs b hc; cases hc) (by intro c hc; cases hc) ?_
            first
              | (refine op_want rfl rfl ?_
                 refine op_call pl21 rfl rfl ((WMany_does (hw0.mono Imm.leA) hlo hhi (hc.mono Imm.leA) (by omega))) Parts.none ?_
                 rintro v81 I81 _ hI81 ⟨⟨m81, rfl, hm1, hm2, hm3⟩, rfl⟩)
              | (refine op_skip rfl rfl (by simp [undef]) rfl ?_)
            refine ops_nil ?_
            refine e_next rfl side_allA ?_
            refine e_eff rfl (by intro cs b hc; cases hc) (by intro c hc; cases hc) ?_
            first
              | (refine op_want rfl rfl ?_
                 refine op_call pl21 rfl rfl ((WMany_does (hw0.mono Imm.leA) hlo hhi (hd.mono Imm.leA) (by omega))) Parts.none ?_
                 rintro v84 I84 _ hI84 ⟨⟨m84, rfl, hn1, hn2, hn3⟩, rfl⟩)
              | (refine op_skip rfl rfl (by simp [undef]) rfl ?_)
            refine ops_nil ?_
            refine e_next rfl side_allA ?_
            first | refine e_fl rfl rfl (fun hs_ => PF.mkg rfl rfl rfl (v_addb rfl rfl rfl (by omega)) hs_) ?_ | refine e_fl rfl rfl (fun hs_ => PF.mkg rfl rfl rfl (v_add rfl rfl) hs_) ?_ | refine e_fl rfl rfl (fun hs_ => PF.mks rfl (by intro c hc; cases hc) rfl rfl (by simp [undef]) hs_) ?_
            first | refine e_fl rfl rfl (fun hs_ => PF.mkg rfl rfl rfl (v_cmptA rfl rfl rfl) hs_) ?_ | refine e_fl rfl rfl (fun hs_ => PF.mkg rfl rfl rfl (v_cmpfA rfl rfl rfl) hs_) ?_ | refine e_fl rfl rfl (fun hs_ => PF.mkg rfl rfl rfl (v_cmp rfl rfl rfl) hs_) ?_ | refine e_fl rfl rfl (fun hs_ => PF.mks rfl (by intro c hc; cases hc) rfl rfl (by simp [undef]) hs_) ?_
            first | refine e_fl rfl rfl (fun hs_ => PF.mk rfl (v_pickt rfl rfl) hs_) ?_ | refine e_fl rfl rfl (fun hs_ => PF.mk rfl (v_pickf rfl rfl) hs_) ?_ | refine e_fl rfl rfl (fun hs_ => PF.mk rfl (v_pickb rfl rfl rfl) hs_) ?_
            refine e_fl rfl rfl (fun hs_ => PF.mk rfl (v_move rfl) hs_) ?_
            first | refine e_fl rfl rfl (fun hs_ => PF.mkg rfl rfl rfl (v_loadA ty25 rfl rfl) hs_) ?_ | refine e_fl rfl rfl (fun hs_ => PF.mks rfl (by intro c hc; cases hc) rfl rfl (by simp [undef]) hs_) ?_
            first | refine e_fl rfl rfl (fun hs_ => PF.mkg rfl rfl rfl (v_move rfl) hs_) ?_ | refine e_fl rfl rfl (fun hs_ => PF.mks rfl (by intro c hc; cases hc) rfl rfl (by simp [undef]) hs_) ?_
            refine e_eff rfl (by intro cs b hc; cases hc) (by intro c hc; cases hc) ?_
            first
              | (refine op_want rfl rfl ?_
                 refine op_call pl22 rfl rfl ((WHolds_does hR hgc (hw0.mono Imm.leA) (hc.mono Imm.leA) (by omega) (by omega))) Parts.none ?_
                 rintro v91 I91 _ hI91 ⟨⟨q91, rfl, hq91⟩, rfl⟩)
              | (refine op_skip rfl rfl (by simp [undef]) rfl ?_)
            refine ops_nil ?_
            refine e_next rfl side_allA ?_
            first | refine e_fl rfl rfl (fun hs_ => PF.mkg rfl rfl rfl (v_not rfl) hs_) ?_ | refine e_fl rfl rfl (fun hs_ => PF.mks rfl (by intro c hc; cases hc) rfl rfl (by simp [undef]) hs_) ?_
            first | refine e_fl rfl rfl (fun hs_ => PF.mk rfl (v_pickt rfl rfl) hs_) ?_ | refine e_fl rfl rfl (fun hs_ => PF.mk rfl (v_pickf rfl rfl) hs_) ?_ | refine e_fl rfl rfl (fun hs_ => PF.mk rfl (v_pickb rfl rfl rfl) hs_) ?_
            refine e_done ?_
            refine post_next ?_
            refine code_cond_t rfl ?_
            refine code_seq ?_
            refine code_region ?_
            refine op_call pl18 rfl rfl ((awake15_does _)) Parts.none ?_
            rintro v94 I94 _ hI94 ⟨rfl, rfl⟩
            refine op_v (v_assign rfl) rfl ?_
            refine ops_nil ?_
            refine post_next ?_
            refine code_ret ?_
            refine post_ret_then ?_
            refine post_ret (rs := [.tmp 8]) rfl (List.Perm.refl _) (.cons (.tmp rfl) .nil) (List.nil_sublist _) ?_
            exact ⟨rfl, rfl⟩
      · have h27' : b26 = false := by simpa using h27
        subst h27'
        first
          | (refine op_want rfl rfl ?_
             refine op_v (v_not rfl) rfl ?_)
          | (refine op_skip rfl rfl (by simp [undef]) rfl ?_)
        first | refine op_v (v_pickt rfl rfl) rfl ?_ | refine op_v (v_pickf rfl rfl) rfl ?_ | refine op_v (v_pickb rfl rfl rfl) rfl ?_
        refine ops_nil ?_
        refine post_next ?_
        refine code_cond_t rfl ?_
        refine code_seq ?_
        refine code_region ?_
        refine op_v (v_assign rfl) rfl ?_
        refine ops_nil ?_
        refine post_next ?_
        refine code_ret ?_
        refine post_ret_then ?_
        refine post_ret (rs := [.tmp 8]) rfl (List.Perm.refl _) (.cons (.tmp rfl) .nil) (List.nil_sublist _) ?_
        exact ⟨rfl, rfl⟩
    · have h22' : fewG gs = false := by simpa using h22
      rw [h22']
      first
        | (refine op_want rfl rfl ?_
           refine op_v (v_not rfl) rfl ?_)
        | (refine op_skip rfl rfl (by simp [undef]) rfl ?_)
      first | refine op_v (v_pickt rfl rfl) rfl ?_ | refine op_v (v_pickf rfl rfl) rfl ?_ | refine op_v (v_pickb rfl rfl rfl) rfl ?_
      refine op_v (v_move rfl) rfl ?_
      first
        | (refine op_want rfl rfl ?_
           refine op_v (v_loadA ty25 rfl rfl) rfl ?_)
        | (refine op_skip rfl rfl (by simp [undef]) rfl ?_)
      first
        | (refine op_want rfl rfl ?_
           refine op_call pl15 rfl rfl ((WFew_does (hw0.mono Imm.leA))) Parts.none ?_
           rintro v26 I26 _ hI26 ⟨⟨b26, rfl⟩, rfl⟩)
        | (refine op_skip rfl rfl (by simp [undef]) rfl ?_)
      first
        | (refine op_want rfl rfl ?_
           refine op_v (v_not rfl) rfl ?_)
        | (refine op_skip rfl rfl (by simp [undef]) rfl ?_)
      first | refine op_v (v_pickt rfl rfl) rfl ?_ | refine op_v (v_pickf rfl rfl) rfl ?_ | refine op_v (v_pickb rfl rfl rfl) rfl ?_
      refine ops_nil ?_
      refine post_next ?_
      refine code_cond_t rfl ?_
      refine code_seq ?_
      refine code_region ?_
      refine op_v (v_assign rfl) rfl ?_
      refine ops_nil ?_
      refine post_next ?_
      refine code_ret ?_
      refine post_ret_then ?_
      refine post_ret (rs := [.tmp 8]) rfl (List.Perm.refl _) (.cons (.tmp rfl) .nil) (List.nil_sublist _) ?_
      exact ⟨rfl, rfl⟩
  · have h18' : b17 = false := by simpa using h18
    subst h18'
    refine op_v (v_not rfl) rfl ?_
    refine op_v (v_move rfl) rfl ?_
    first
      | (refine op_want rfl rfl ?_
         refine op_v (v_move rfl) rfl ?_)
      | (refine op_skip rfl rfl (by simp [undef]) rfl ?_)
    first
      | (refine op_want rfl rfl ?_
         refine op_call pl14 rfl rfl ((FewG_does (hg.mono Imm.leA))) Parts.none ?_
         rintro v21 I21 _ hI21 ⟨rfl, rfl⟩)
      | (refine op_skip rfl rfl (by simp [undef]) rfl ?_)
    first
      | (refine op_want rfl rfl ?_
         refine op_v (v_not rfl) rfl ?_)
      | (refine op_skip rfl rfl (by simp [undef]) rfl ?_)
    first | refine op_v (v_pickt rfl rfl) rfl ?_ | refine op_v (v_pickf rfl rfl) rfl ?_ | refine op_v (v_pickb rfl rfl rfl) rfl ?_
    refine op_v (v_move rfl) rfl ?_
    first
      | (refine op_want rfl rfl ?_
         refine op_v (v_loadA ty25 rfl rfl) rfl ?_)
      | (refine op_skip rfl rfl (by simp [undef]) rfl ?_)
    first
      | (refine op_want rfl rfl ?_
         refine op_call pl15 rfl rfl ((WFew_does (hw0.mono Imm.leA))) Parts.none ?_
         rintro v26 I26 _ hI26 ⟨⟨b26, rfl⟩, rfl⟩)
      | (refine op_skip rfl rfl (by simp [undef]) rfl ?_)
    first
      | (refine op_want rfl rfl ?_
         refine op_v (v_not rfl) rfl ?_)
      | (refine op_skip rfl rfl (by simp [undef]) rfl ?_)
    first | refine op_v (v_pickt rfl rfl) rfl ?_ | refine op_v (v_pickf rfl rfl) rfl ?_ | refine op_v (v_pickb rfl rfl rfl) rfl ?_
    refine ops_nil ?_
    refine post_next ?_
    refine code_cond_t rfl ?_
    refine code_seq ?_
    refine code_region ?_
    refine op_v (v_assign rfl) rfl ?_
    refine ops_nil ?_
    refine post_next ?_
    refine code_ret ?_
    refine post_ret_then ?_
    refine post_ret (rs := [.tmp 8]) rfl (List.Perm.refl _) (.cons (.tmp rfl) .nil) (List.nil_sublist _) ?_
    exact ⟨rfl, rfl⟩
end Go.Proofs.Ytdbadicpbmndbaa
