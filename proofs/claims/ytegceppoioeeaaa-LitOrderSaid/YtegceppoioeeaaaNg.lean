/- Walks: the statement that literals are ordered. -/
import Derived.Test.YtegceppoioeeaaaNd
import Derived.Test.YtegceppoioeeaaaNe
set_option linter.unusedVariables false
set_option linter.unusedSimpArgs false
set_option linter.unnecessarySimpa false
/- short -/
namespace Go.Proofs.Ytegceppoioeeaaa
open Go Lg

theorem LitOrder_does {I : Imm} {vg va vb vc : Value} {gs : List Sy} {x y z : Li} (hg : RepG I vg gs) (ha : RepL I va x) (hb : RepL I vb y) (hc : RepL I vc z) :
    Does Try.prog 13 [vg, va, vb, vc] I [] (fun v I' δ' => v = .bool true ∧ δ' = []) := by
  have ha0 := ha
  have hb0 := hb
  have hc0 := hc
  obtain ⟨la, lc, ra, rc, rfl, hl, hr⟩ := ha
  obtain ⟨ma, mc, na, nc, rfl, kl, kr⟩ := hb
  obtain ⟨pa, pc, qa, qc, rfl, jl, jr⟩ := hc
  refine Does.intro Try.func13 rfl Try.ntmps13 rfl fun w0 => ?_
  refine code_seq ?_
  refine code_region ?_
  refine o_box rfl rfl rfl (fun b5 => ?_)
  refine o_box rfl rfl rfl (fun b6 => ?_)
  refine o_box rfl rfl rfl (fun b7 => ?_)
  refine op_v (v_assign rfl) rfl ?_
  refine ops_nil ?_
  refine post_next ?_
  refine code_seq ?_
  refine code_seq ?_
  refine code_region ?_
  refine op_v (v_move rfl) rfl ?_
  refine op_call pl14 rfl rfl ((FewG_does (hg.mono Imm.leA))) Parts.none ?_
  rintro v16 I16 _ hI16 ⟨rfl, rfl⟩
  by_cases e1 : fewG gs = true
  · rw [e1]
    refine op_v (v_not rfl) rfl ?_
    refine op_v (v_move rfl) rfl ?_
    first
      | (refine op_want rfl rfl ?_
         refine op_v (v_loadA ty27 rfl rfl) rfl ?_)
      | (refine op_skip rfl rfl (by simp [undef]) rfl ?_)
    first
      | (refine op_want rfl rfl ?_
         refine op_call pl15 rfl rfl ((FewL_does (ha0.mono Imm.leA))) Parts.none ?_
         rintro v20 I20 _ hI20 ⟨rfl, rfl⟩)
      | (refine op_skip rfl rfl (by simp [undef]) rfl ?_)
    by_cases e2 : fewL x = true
    · rw [e2]
      have hsz : x.l.size ≤ 500 ∧ x.r.size ≤ 500 := by simpa [fewL] using e2
      first
        | (refine op_want rfl rfl ?_
           refine op_v (v_not rfl) rfl ?_)
        | (refine op_skip rfl rfl (by simp [undef]) rfl ?_)
      first | refine op_v (v_pickt rfl rfl) rfl ?_ | refine op_v (v_pickf rfl rfl) rfl ?_ | refine op_v (v_pickb rfl rfl rfl) rfl ?_
      refine op_v (v_move rfl) rfl ?_
      first
        | (refine op_want rfl rfl ?_
           refine op_v (v_loadA ty27 rfl rfl) rfl ?_)
        | (refine op_skip rfl rfl (by simp [undef]) rfl ?_)
      first
        | (refine op_want rfl rfl ?_
           refine op_call pl15 rfl rfl ((FewL_does (hb0.mono Imm.leA))) Parts.none ?_
           rintro v25 I25 _ hI25 ⟨rfl, rfl⟩)
        | (refine op_skip rfl rfl (by simp [undef]) rfl ?_)
      by_cases e3 : fewL y = true
      · rw [e3]
        have hsy : y.l.size ≤ 500 ∧ y.r.size ≤ 500 := by simpa [fewL] using e3
        first
          | (refine op_want rfl rfl ?_
             refine op_v (v_not rfl) rfl ?_)
          | (refine op_skip rfl rfl (by simp [undef]) rfl ?_)
        first | refine op_v (v_pickt rfl rfl) rfl ?_ | refine op_v (v_pickf rfl rfl) rfl ?_ | refine op_v (v_pickb rfl rfl rfl) rfl ?_
        refine op_v (v_move rfl) rfl ?_
        first
          | (refine op_want rfl rfl ?_
             refine op_v (v_loadA ty27 rfl rfl) rfl ?_)
          | (refine op_skip rfl rfl (by simp [undef]) rfl ?_)
        first
          | (refine op_want rfl rfl ?_
             refine op_call pl15 rfl rfl ((FewL_does (hc0.mono Imm.leA))) Parts.none ?_
             rintro v30 I30 _ hI30 ⟨rfl, rfl⟩)
          | (refine op_skip rfl rfl (by simp [undef]) rfl ?_)
        by_cases e4 : fewL z = true
        · rw [e4]
          have hszz : z.l.size ≤ 500 ∧ z.r.size ≤ 500 := by simpa [fewL] using e4
          first
            | (refine op_want rfl rfl ?_
               refine op_v (v_not rfl) rfl ?_)
            | (refine op_skip rfl rfl (by simp [undef]) rfl ?_)
          first | refine op_v (v_pickt rfl rfl) rfl ?_ | refine op_v (v_pickf rfl rfl) rfl ?_ | refine op_v (v_pickb rfl rfl rfl) rfl ?_
          refine ops_nil ?_
          refine post_next ?_
          refine code_cond_f rfl ?_
          refine code_skip ?_
          refine post_next ?_
          refine code_seq ?_
          refine code_region ?_
          refine op_v (v_move rfl) rfl ?_
          refine op_v (v_loadA ty27 rfl rfl) rfl ?_
          refine op_v (v_loadA ty27 rfl rfl) rfl ?_
          refine op_call pl45 rfl rfl ((LCompare_does (hg.mono Imm.leA) (ha0.mono Imm.leA) (hb0.mono Imm.leA) (by omega) (by omega) (by omega) (by omega))) Parts.none ?_
          rintro _ I37 _ hI37 ⟨rfl, rfl⟩
          refine op_v (v_move rfl) rfl ?_
          refine op_v (v_extract rfl rfl) rfl ?_
          refine op_v (v_extract rfl rfl) rfl ?_
          refine op_v (v_assign rfl) rfl ?_
          refine op_v (v_assign rfl) rfl ?_
          refine ops_nil ?_
          refine post_next ?_
          refine code_seq ?_
          refine code_region ?_
          refine op_v (v_move rfl) rfl ?_
          refine op_v (v_loadA ty27 rfl rfl) rfl ?_
          refine op_v (v_loadA ty27 rfl rfl) rfl ?_
          refine op_call pl45 rfl rfl ((LCompare_does (hg.mono Imm.leA) (hb0.mono Imm.leA) (hc0.mono Imm.leA) (by omega) (by omega) (by omega) (by omega))) Parts.none ?_
          rintro _ I44 _ hI44 ⟨rfl, rfl⟩
          refine op_v (v_move rfl) rfl ?_
          refine op_v (v_extract rfl rfl) rfl ?_
          refine op_v (v_extract rfl rfl) rfl ?_
          refine op_v (v_assign rfl) rfl ?_
          refine op_v (v_assign rfl) rfl ?_
          refine ops_nil ?_
          refine post_next ?_
          refine code_seq ?_
          refine code_region ?_
          refine op_v (v_move rfl) rfl ?_
          refine op_v (v_loadA ty27 rfl rfl) rfl ?_
          refine op_v (v_loadA ty27 rfl rfl) rfl ?_
          refine op_call pl45 rfl rfl ((LCompare_does (hg.mono Imm.leA) (ha0.mono Imm.leA) (hc0.mono Imm.leA) (by omega) (by omega) (by omega) (by omega))) Parts.none ?_
          rintro _ I51 _ hI51 ⟨rfl, rfl⟩
          refine op_v (v_move rfl) rfl ?_
          refine op_v (v_extract rfl rfl) rfl ?_
          refine op_v (v_extract rfl rfl) rfl ?_
          refine op_v (v_assign rfl) rfl ?_
          refine op_v (v_assign rfl) rfl ?_
          refine ops_nil ?_
          refine post_next ?_
          refine code_seq ?_
          refine code_seq ?_
          refine code_region ?_
          refine op_v (v_move rfl) rfl ?_
          by_cases e5 : litE gs x y ≠ 0
          · first | refine op_v (v_cmptA rfl rfl rfl) rfl ?_ | refine op_v (v_cmpfA rfl rfl rfl) rfl ?_ | refine op_v (v_cmp rfl rfl rfl) rfl ?_
            refine op_v (v_move rfl) rfl ?_
            first
              | (refine op_want rfl rfl ?_
                 refine op_v (v_move rfl) rfl ?_)
              | (refine op_skip rfl rfl (by simp [undef]) rfl ?_)
            first
              | (refine op_want rfl rfl ?_
                 first | refine op_v (v_cmptA rfl rfl rfl) rfl ?_ | refine op_v (v_cmpfA rfl rfl rfl) rfl ?_ | refine op_v (v_cmp rfl rfl rfl) rfl ?_)
              | (refine op_skip rfl rfl (by simp [undef]) rfl ?_)
            first | refine op_v (v_pickt rfl rfl) rfl ?_ | refine op_v (v_pickf rfl rfl) rfl ?_ | refine op_v (v_pickb rfl rfl rfl) rfl ?_
            refine op_v (v_move rfl) rfl ?_
            first
              | (refine op_want rfl rfl ?_
                 refine op_v (v_move rfl) rfl ?_)
              | (refine op_skip rfl rfl (by simp [undef]) rfl ?_)
            first
              | (refine op_want rfl rfl ?_
                 first | refine op_v (v_cmptA rfl rfl rfl) rfl ?_ | refine op_v (v_cmpfA rfl rfl rfl) rfl ?_ | refine op_v (v_cmp rfl rfl rfl) rfl ?_)
              | (refine op_skip rfl rfl (by simp [undef]) rfl ?_)
            first | refine op_v (v_pickt rfl rfl) rfl ?_ | refine op_v (v_pickf rfl rfl) rfl ?_ | refine op_v (v_pickb rfl rfl rfl) rfl ?_
            refine ops_nil ?_
            refine post_next ?_
            refine code_cond_t rfl ?_
            refine code_seq ?_
            refine code_region ?_
            refine op_call pl17 rfl rfl ((awake9_does _)) Parts.none ?_
            rintro _ I64 _ hI64 ⟨rfl, rfl⟩
            refine op_v (v_assign rfl) rfl ?_
            refine ops_nil ?_
            refine post_next ?_
            refine code_ret ?_
            refine post_ret_then ?_
            refine post_ret (rs := [.tmp 8]) rfl (List.Perm.refl _) (.cons (.tmp rfl) .nil) (List.nil_sublist _) ?_
            exact ⟨rfl, rfl⟩
          · first | refine op_v (v_cmptA rfl rfl rfl) rfl ?_ | refine op_v (v_cmpfA rfl rfl rfl) rfl ?_ | refine op_v (v_cmp rfl rfl rfl) rfl ?_
            refine op_v (v_move rfl) rfl ?_
            first
              | (refine op_want rfl rfl ?_
                 refine op_v (v_move rfl) rfl ?_)
              | (refine op_skip rfl rfl (by simp [undef]) rfl ?_)
            by_cases e6 : litE gs y z ≠ 0
            · first
                | (refine op_want rfl rfl ?_
                   first | refine op_v (v_cmptA rfl rfl rfl) rfl ?_ | refine op_v (v_cmpfA rfl rfl rfl) rfl ?_ | refine op_v (v_cmp rfl rfl rfl) rfl ?_)
                | (refine op_skip rfl rfl (by simp [undef]) rfl ?_)
              first | refine op_v (v_pickt rfl rfl) rfl ?_ | refine op_v (v_pickf rfl rfl) rfl ?_ | refine op_v (v_pickb rfl rfl rfl) rfl ?_
              refine op_v (v_move rfl) rfl ?_
              first
                | (refine op_want rfl rfl ?_
                   refine op_v (v_move rfl) rfl ?_)
                | (refine op_skip rfl rfl (by simp [undef]) rfl ?_)
              first
                | (refine op_want rfl rfl ?_
                   first | refine op_v (v_cmptA rfl rfl rfl) rfl ?_ | refine op_v (v_cmpfA rfl rfl rfl) rfl ?_ | refine op_v (v_cmp rfl rfl rfl) rfl ?_)
                | (refine op_skip rfl rfl (by simp [undef]) rfl ?_)
              first | refine op_v (v_pickt rfl rfl) rfl ?_ | refine op_v (v_pickf rfl rfl) rfl ?_ | refine op_v (v_pickb rfl rfl rfl) rfl ?_
              refine ops_nil ?_
              refine post_next ?_
              refine code_cond_t rfl ?_
              refine code_seq ?_
              refine code_region ?_
              refine op_call pl17 rfl rfl ((awake9_does _)) Parts.none ?_
              rintro _ I64 _ hI64 ⟨rfl, rfl⟩
              refine op_v (v_assign rfl) rfl ?_
              refine ops_nil ?_
              refine post_next ?_
              refine code_ret ?_
              refine post_ret_then ?_
              refine post_ret (rs := [.tmp 8]) rfl (List.Perm.refl _) (.cons (.tmp rfl) .nil) (List.nil_sublist _) ?_
              exact ⟨rfl, rfl⟩
            · first
                | (refine op_want rfl rfl ?_
                   first | refine op_v (v_cmptA rfl rfl rfl) rfl ?_ | refine op_v (v_cmpfA rfl rfl rfl) rfl ?_ | refine op_v (v_cmp rfl rfl rfl) rfl ?_)
                | (refine op_skip rfl rfl (by simp [undef]) rfl ?_)
              first | refine op_v (v_pickt rfl rfl) rfl ?_ | refine op_v (v_pickf rfl rfl) rfl ?_ | refine op_v (v_pickb rfl rfl rfl) rfl ?_
              refine op_v (v_move rfl) rfl ?_
              first
                | (refine op_want rfl rfl ?_
                   refine op_v (v_move rfl) rfl ?_)
                | (refine op_skip rfl rfl (by simp [undef]) rfl ?_)
              by_cases e7 : litE gs x z ≠ 0
              · first
                  | (refine op_want rfl rfl ?_
                     first | refine op_v (v_cmptA rfl rfl rfl) rfl ?_ | refine op_v (v_cmpfA rfl rfl rfl) rfl ?_ | refine op_v (v_cmp rfl rfl rfl) rfl ?_)
                  | (refine op_skip rfl rfl (by simp [undef]) rfl ?_)
                first | refine op_v (v_pickt rfl rfl) rfl ?_ | refine op_v (v_pickf rfl rfl) rfl ?_ | refine op_v (v_pickb rfl rfl rfl) rfl ?_
                refine ops_nil ?_
                refine post_next ?_
                refine code_cond_t rfl ?_
                refine code_seq ?_
                refine code_region ?_
                refine op_call pl17 rfl rfl ((awake9_does _)) Parts.none ?_
                rintro _ I64 _ hI64 ⟨rfl, rfl⟩
                refine op_v (v_assign rfl) rfl ?_
                refine ops_nil ?_
                refine post_next ?_
                refine code_ret ?_
                refine post_ret_then ?_
                refine post_ret (rs := [.tmp 8]) rfl (List.Perm.refl _) (.cons (.tmp rfl) .nil) (List.nil_sublist _) ?_
                exact ⟨rfl, rfl⟩
              · have z5 : litE gs x y = 0 := by omega
                have z6 : litE gs y z = 0 := by omega
                have z7 : litE gs x z = 0 := by omega
                rw [if_pos z5, if_pos z6, if_pos z7]
                obtain ⟨ox, oy⟩ := litE_ok z5
                have oz := (litE_ok z6).2
                have hX : ∀ t ∈ rowL x, OkG gs t := fun t ht => by rcases rowL_mem ht with rfl | rfl; exact (litG_ok ox).1; exact (litG_ok ox).2
                have hY : ∀ t ∈ rowL y, OkG gs t := fun t ht => by rcases rowL_mem ht with rfl | rfl; exact (litG_ok oy).1; exact (litG_ok oy).2
                have hZ : ∀ t ∈ rowL z, OkG gs t := fun t ht => by rcases rowL_mem ht with rfl | rfl; exact (litG_ok oz).1; exact (litG_ok oz).2
                have hsame : mulG gs (rowL x) (rowL y) = 0 ↔ sameL x y = true := mulG_zero.trans rowL_perm
                first
                  | (refine op_want rfl rfl ?_
                     first | refine op_v (v_cmptA rfl rfl rfl) rfl ?_ | refine op_v (v_cmpfA rfl rfl rfl) rfl ?_ | refine op_v (v_cmp rfl rfl rfl) rfl ?_)
                  | (refine op_skip rfl rfl (by simp [undef]) rfl ?_)
                first | refine op_v (v_pickt rfl rfl) rfl ?_ | refine op_v (v_pickf rfl rfl) rfl ?_ | refine op_v (v_pickb rfl rfl rfl) rfl ?_
                refine ops_nil ?_
                refine post_next ?_
                refine code_cond_f rfl ?_
                refine code_skip ?_
                refine post_next ?_
                refine code_seq ?_
                refine code_seq ?_
                refine code_region ?_
                refine op_v (v_move rfl) rfl ?_
                by_cases e8 : mulG gs (rowL x) (rowL y) = 0
                · first | refine op_v (v_cmptA rfl rfl rfl) rfl ?_ | refine op_v (v_cmpfA rfl rfl rfl) rfl ?_ | refine op_v (v_cmp rfl rfl rfl) rfl ?_
                  refine op_v (v_loadA ty27 rfl rfl) rfl ?_
                  refine op_v (v_loadA ty27 rfl rfl) rfl ?_
                  refine op_call pl20 rfl rfl ((LSame_does (ha0.mono Imm.leA) (hb0.mono Imm.leA) (by omega) (by omega) (by omega) (by omega))) Parts.none ?_
                  rintro _ I69 _ hI69 ⟨rfl, rfl⟩
                  rw [hsame.1 e8]
                  refine op_v (v_eqb Try.underlying4 rfl rfl rfl) rfl ?_
                  refine op_v (v_move rfl) rfl ?_
                  first
                    | (refine op_want rfl rfl ?_
                       refine op_v (v_loadA ty27 rfl rfl) rfl ?_)
                    | (refine op_skip rfl rfl (by simp [undef]) rfl ?_)
                  first
                    | (refine op_want rfl rfl ?_
                       refine op_v (v_loadA ty27 rfl rfl) rfl ?_)
                    | (refine op_skip rfl rfl (by simp [undef]) rfl ?_)
                  first
                    | (refine op_want rfl rfl ?_
                       refine op_call pl26 rfl rfl ((LOpp_does (ha0.mono Imm.leA) (hb0.mono Imm.leA) (by omega) (by omega) (by omega) (by omega))) Parts.none ?_
                       rintro _ I74 _ hI74 ⟨rfl, rfl⟩
                       have hno : oppL x y = false := by { have hq := hsame.1 e8; unfold sameL at hq; rw [Bool.and_eq_true] at hq; unfold oppL; rw [hq.1]; rfl }
                       rw [hno])
                    | (refine op_skip rfl rfl (by simp [undef]) rfl ?_)
                  first
                    | (refine op_want rfl rfl ?_
                       refine op_v (v_move rfl) rfl ?_)
                    | (refine op_skip rfl rfl (by simp [undef]) rfl ?_)
                  first
                    | (refine op_want rfl rfl ?_
                       first | refine op_v (v_fieldB 0 Try.underlying27 rfl rfl fz4 rfl) rfl ?_ | refine op_v (v_fieldI 0 Try.underlying27 rfl rfl fz4 rfl (by assumption)) rfl ?_ | refine op_v (v_field Try.underlying27 rfl fz4 rfl rfl) rfl ?_)
                    | (refine op_skip rfl rfl (by simp [undef]) rfl ?_)
                  first
                    | (refine op_want rfl rfl ?_
                       refine op_v (v_loadA ty4 rfl rfl) rfl ?_)
                    | (refine op_skip rfl rfl (by simp [undef]) rfl ?_)
                  first
                    | (refine op_want rfl rfl ?_
                       first | refine op_v (v_pickt rfl rfl) rfl ?_ | refine op_v (v_pickf rfl rfl) rfl ?_ | refine op_v (v_pickb rfl rfl rfl) rfl ?_)
                    | (refine op_skip rfl rfl (by simp [undef]) rfl ?_)
                  first
                    | (refine op_want rfl rfl ?_
                       refine op_v (v_move rfl) rfl ?_)
                    | (refine op_skip rfl rfl (by simp [undef]) rfl ?_)
                  first
                    | (refine op_want rfl rfl ?_
                       refine op_v (v_move rfl) rfl ?_)
                    | (refine op_skip rfl rfl (by simp [undef]) rfl ?_)
                  first
                    | (refine op_want rfl rfl ?_
                       first | refine op_v (v_cmptA rfl rfl rfl) rfl ?_ | refine op_v (v_cmpfA rfl rfl rfl) rfl ?_ | refine op_v (v_cmp rfl rfl rfl) rfl ?_)
                    | (refine op_skip rfl rfl (by simp [undef]) rfl ?_)
                  first
                    | (refine op_want rfl rfl ?_
                       first | refine op_v (v_pickt rfl rfl) rfl ?_ | refine op_v (v_pickf rfl rfl) rfl ?_ | refine op_v (v_pickb rfl rfl rfl) rfl ?_)
                    | (refine op_skip rfl rfl (by simp [undef]) rfl ?_)
                  first | refine op_v (v_pickt rfl rfl) rfl ?_ | refine op_v (v_pickf rfl rfl) rfl ?_ | refine op_v (v_pickb rfl rfl rfl) rfl ?_
                  refine ops_nil ?_
                  refine post_next ?_
                  refine code_cond_f rfl ?_
                  refine code_skip ?_
                  refine post_next ?_
                  refine code_seq ?_
                  refine code_region ?_
                  refine op_call pl17 rfl rfl ((awake9_does _)) Parts.none ?_
                  rintro _ I84 _ hI84 ⟨rfl, rfl⟩
                  refine op_v (v_move rfl) rfl ?_
                  first
                    | (refine op_want rfl rfl ?_
                       refine op_v (v_move rfl) rfl ?_)
                    | (refine op_skip rfl rfl (by simp [undef]) rfl ?_)
                  by_cases h1 : mulG gs (rowL x) (rowL y) ≠ 1
                  · first
                      | (refine op_want rfl rfl ?_
                         first | refine op_v (v_cmptA rfl rfl rfl) rfl ?_ | refine op_v (v_cmpfA rfl rfl rfl) rfl ?_ | refine op_v (v_cmp rfl rfl rfl) rfl ?_)
                      | (refine op_skip rfl rfl (by simp [undef]) rfl ?_)
                    first
                      | (refine op_want rfl rfl ?_
                         refine op_v (v_move rfl) rfl ?_)
                      | (refine op_skip rfl rfl (by simp [undef]) rfl ?_)
                    first
                      | (refine op_want rfl rfl ?_
                         refine op_v (v_move rfl) rfl ?_)
                      | (refine op_skip rfl rfl (by simp [undef]) rfl ?_)
                    first
                      | (refine op_want rfl rfl ?_
                         first | refine op_v (v_cmptA rfl rfl rfl) rfl ?_ | refine op_v (v_cmpfA rfl rfl rfl) rfl ?_ | refine op_v (v_cmp rfl rfl rfl) rfl ?_)
                      | (refine op_skip rfl rfl (by simp [undef]) rfl ?_)
                    first
                      | (refine op_want rfl rfl ?_
                         first | refine op_v (v_pickt rfl rfl) rfl ?_ | refine op_v (v_pickf rfl rfl) rfl ?_ | refine op_v (v_pickb rfl rfl rfl) rfl ?_)
                      | (refine op_skip rfl rfl (by simp [undef]) rfl ?_)
                    first
                      | (refine op_want rfl rfl ?_
                         refine op_v (v_move rfl) rfl ?_)
                      | (refine op_skip rfl rfl (by simp [undef]) rfl ?_)
                    first
                      | (refine op_want rfl rfl ?_
                         refine op_v (v_move rfl) rfl ?_)
                      | (refine op_skip rfl rfl (by simp [undef]) rfl ?_)
                    first
                      | (refine op_want rfl rfl ?_
                         first | refine op_v (v_cmptA rfl rfl rfl) rfl ?_ | refine op_v (v_cmpfA rfl rfl rfl) rfl ?_ | refine op_v (v_cmp rfl rfl rfl) rfl ?_)
                      | (refine op_skip rfl rfl (by simp [undef]) rfl ?_)
                    first
                      | (refine op_want rfl rfl ?_
                         first | refine op_v (v_pickt rfl rfl) rfl ?_ | refine op_v (v_pickf rfl rfl) rfl ?_ | refine op_v (v_pickb rfl rfl rfl) rfl ?_)
                      | (refine op_skip rfl rfl (by simp [undef]) rfl ?_)
                    first | refine op_v (v_pickt rfl rfl) rfl ?_ | refine op_v (v_pickf rfl rfl) rfl ?_ | refine op_v (v_pickb rfl rfl rfl) rfl ?_
                    refine op_v (v_assign rfl) rfl ?_
                    refine ops_nil ?_
                    refine post_next ?_
                    refine code_ret ?_
                    refine post_ret (rs := [.tmp 8]) rfl (List.Perm.refl _) (.cons (.tmp rfl) .nil) (List.nil_sublist _) ?_
                    exact ⟨rfl, rfl⟩
                  · first
                      | (refine op_want rfl rfl ?_
                         first | refine op_v (v_cmptA rfl rfl rfl) rfl ?_ | refine op_v (v_cmpfA rfl rfl rfl) rfl ?_ | refine op_v (v_cmp rfl rfl rfl) rfl ?_)
                      | (refine op_skip rfl rfl (by simp [undef]) rfl ?_)
                    first
                      | (refine op_want rfl rfl ?_
                         refine op_v (v_move rfl) rfl ?_)
                      | (refine op_skip rfl rfl (by simp [undef]) rfl ?_)
                    first
                      | (refine op_want rfl rfl ?_
                         refine op_v (v_move rfl) rfl ?_)
                      | (refine op_skip rfl rfl (by simp [undef]) rfl ?_)
                    by_cases h2 : mulG gs (rowL y) (rowL z) ≠ 1
                    · first
                        | (refine op_want rfl rfl ?_
                           first | refine op_v (v_cmptA rfl rfl rfl) rfl ?_ | refine op_v (v_cmpfA rfl rfl rfl) rfl ?_ | refine op_v (v_cmp rfl rfl rfl) rfl ?_)
                        | (refine op_skip rfl rfl (by simp [undef]) rfl ?_)
                      first
                        | (refine op_want rfl rfl ?_
                           first | refine op_v (v_pickt rfl rfl) rfl ?_ | refine op_v (v_pickf rfl rfl) rfl ?_ | refine op_v (v_pickb rfl rfl rfl) rfl ?_)
                        | (refine op_skip rfl rfl (by simp [undef]) rfl ?_)
                      first
                        | (refine op_want rfl rfl ?_
                           refine op_v (v_move rfl) rfl ?_)
                        | (refine op_skip rfl rfl (by simp [undef]) rfl ?_)
                      first
                        | (refine op_want rfl rfl ?_
                           refine op_v (v_move rfl) rfl ?_)
                        | (refine op_skip rfl rfl (by simp [undef]) rfl ?_)
                      first
                        | (refine op_want rfl rfl ?_
                           first | refine op_v (v_cmptA rfl rfl rfl) rfl ?_ | refine op_v (v_cmpfA rfl rfl rfl) rfl ?_ | refine op_v (v_cmp rfl rfl rfl) rfl ?_)
                        | (refine op_skip rfl rfl (by simp [undef]) rfl ?_)
                      first
                        | (refine op_want rfl rfl ?_
                           first | refine op_v (v_pickt rfl rfl) rfl ?_ | refine op_v (v_pickf rfl rfl) rfl ?_ | refine op_v (v_pickb rfl rfl rfl) rfl ?_)
                        | (refine op_skip rfl rfl (by simp [undef]) rfl ?_)
                      first | refine op_v (v_pickt rfl rfl) rfl ?_ | refine op_v (v_pickf rfl rfl) rfl ?_ | refine op_v (v_pickb rfl rfl rfl) rfl ?_
                      refine op_v (v_assign rfl) rfl ?_
                      refine ops_nil ?_
                      refine post_next ?_
                      refine code_ret ?_
                      refine post_ret (rs := [.tmp 8]) rfl (List.Perm.refl _) (.cons (.tmp rfl) .nil) (List.nil_sublist _) ?_
                      exact ⟨rfl, rfl⟩
                    · have h3 := mulG_trans hX hY hZ (by omega) (show mulG gs (rowL y) (rowL z) = 1 by omega)
                      rw [h3]
                      first
                        | (refine op_want rfl rfl ?_
                           first | refine op_v (v_cmptA rfl rfl rfl) rfl ?_ | refine op_v (v_cmpfA rfl rfl rfl) rfl ?_ | refine op_v (v_cmp rfl rfl rfl) rfl ?_)
                        | (refine op_skip rfl rfl (by simp [undef]) rfl ?_)
                      first
                        | (refine op_want rfl rfl ?_
                           first | refine op_v (v_pickt rfl rfl) rfl ?_ | refine op_v (v_pickf rfl rfl) rfl ?_ | refine op_v (v_pickb rfl rfl rfl) rfl ?_)
                        | (refine op_skip rfl rfl (by simp [undef]) rfl ?_)
                      first
                        | (refine op_want rfl rfl ?_
                           refine op_v (v_move rfl) rfl ?_)
                        | (refine op_skip rfl rfl (by simp [undef]) rfl ?_)
                      first
                        | (refine op_want rfl rfl ?_
                           refine op_v (v_move rfl) rfl ?_)
                        | (refine op_skip rfl rfl (by simp [undef]) rfl ?_)
                      first
                        | (refine op_want rfl rfl ?_
                           first | refine op_v (v_cmptA rfl rfl rfl) rfl ?_ | refine op_v (v_cmpfA rfl rfl rfl) rfl ?_ | refine op_v (v_cmp rfl rfl rfl) rfl ?_)
                        | (refine op_skip rfl rfl (by simp [undef]) rfl ?_)
                      first
                        | (refine op_want rfl rfl ?_
                           first | refine op_v (v_pickt rfl rfl) rfl ?_ | refine op_v (v_pickf rfl rfl) rfl ?_ | refine op_v (v_pickb rfl rfl rfl) rfl ?_)
                        | (refine op_skip rfl rfl (by simp [undef]) rfl ?_)
                      first | refine op_v (v_pickt rfl rfl) rfl ?_ | refine op_v (v_pickf rfl rfl) rfl ?_ | refine op_v (v_pickb rfl rfl rfl) rfl ?_
                      refine op_v (v_assign rfl) rfl ?_
                      refine ops_nil ?_
                      refine post_next ?_
                      refine code_ret ?_
                      refine post_ret (rs := [.tmp 8]) rfl (List.Perm.refl _) (.cons (.tmp rfl) .nil) (List.nil_sublist _) ?_
                      exact ⟨rfl, rfl⟩
                · first | refine op_v (v_cmptA rfl rfl rfl) rfl ?_ | refine op_v (v_cmpfA rfl rfl rfl) rfl ?_ | refine op_v (v_cmp rfl rfl rfl) rfl ?_
                  refine op_v (v_loadA ty27 rfl rfl) rfl ?_
                  refine op_v (v_loadA ty27 rfl rfl) rfl ?_
                  refine op_call pl20 rfl rfl ((LSame_does (ha0.mono Imm.leA) (hb0.mono Imm.leA) (by omega) (by omega) (by omega) (by omega))) Parts.none ?_
                  rintro _ I69 _ hI69 ⟨rfl, rfl⟩
                  have hns : sameL x y = false := by { cases hq : sameL x y; rfl; exact absurd (hsame.2 hq) e8 }
                  rw [hns]
                  refine op_v (v_eqb Try.underlying4 rfl rfl rfl) rfl ?_
                  refine op_v (v_move rfl) rfl ?_
                  first
                    | (refine op_want rfl rfl ?_
                       refine op_v (v_loadA ty27 rfl rfl) rfl ?_)
                    | (refine op_skip rfl rfl (by simp [undef]) rfl ?_)
                  first
                    | (refine op_want rfl rfl ?_
                       refine op_v (v_loadA ty27 rfl rfl) rfl ?_)
                    | (refine op_skip rfl rfl (by simp [undef]) rfl ?_)
                  first
                    | (refine op_want rfl rfl ?_
                       refine op_call pl26 rfl rfl ((LOpp_does (ha0.mono Imm.leA) (hb0.mono Imm.leA) (by omega) (by omega) (by omega) (by omega))) Parts.none ?_
                       rintro _ I74 _ hI74 ⟨rfl, rfl⟩)
                    | (refine op_skip rfl rfl (by simp [undef]) rfl ?_)
                  by_cases e9 : oppL x y = true
                  · rw [e9]
                    first
                      | (refine op_want rfl rfl ?_
                         refine op_v (v_move rfl) rfl ?_)
                      | (refine op_skip rfl rfl (by simp [undef]) rfl ?_)
                    first
                      | (refine op_want rfl rfl ?_
                         first | refine op_v (v_fieldB 0 Try.underlying27 rfl rfl fz4 rfl) rfl ?_ | refine op_v (v_fieldI 0 Try.underlying27 rfl rfl fz4 rfl (by assumption)) rfl ?_ | refine op_v (v_field Try.underlying27 rfl fz4 rfl rfl) rfl ?_)
                      | (refine op_skip rfl rfl (by simp [undef]) rfl ?_)
                    first
                      | (refine op_want rfl rfl ?_
                         refine op_v (v_loadA ty4 rfl rfl) rfl ?_)
                      | (refine op_skip rfl rfl (by simp [undef]) rfl ?_)
                    by_cases e10 : x.neg = true
                    · rw [e10]
                      have hmore := opp_more (gs := gs) e9 e10
                      rw [hmore]
                      first
                        | (refine op_want rfl rfl ?_
                           first | refine op_v (v_pickt rfl rfl) rfl ?_ | refine op_v (v_pickf rfl rfl) rfl ?_ | refine op_v (v_pickb rfl rfl rfl) rfl ?_)
                        | (refine op_skip rfl rfl (by simp [undef]) rfl ?_)
                      first
                        | (refine op_want rfl rfl ?_
                           refine op_v (v_move rfl) rfl ?_)
                        | (refine op_skip rfl rfl (by simp [undef]) rfl ?_)
                      first
                        | (refine op_want rfl rfl ?_
                           refine op_v (v_move rfl) rfl ?_)
                        | (refine op_skip rfl rfl (by simp [undef]) rfl ?_)
                      first
                        | (refine op_want rfl rfl ?_
                           first | refine op_v (v_cmptA rfl rfl rfl) rfl ?_ | refine op_v (v_cmpfA rfl rfl rfl) rfl ?_ | refine op_v (v_cmp rfl rfl rfl) rfl ?_)
                        | (refine op_skip rfl rfl (by simp [undef]) rfl ?_)
                      first
                        | (refine op_want rfl rfl ?_
                           first | refine op_v (v_pickt rfl rfl) rfl ?_ | refine op_v (v_pickf rfl rfl) rfl ?_ | refine op_v (v_pickb rfl rfl rfl) rfl ?_)
                        | (refine op_skip rfl rfl (by simp [undef]) rfl ?_)
                      first | refine op_v (v_pickt rfl rfl) rfl ?_ | refine op_v (v_pickf rfl rfl) rfl ?_ | refine op_v (v_pickb rfl rfl rfl) rfl ?_
                      refine ops_nil ?_
                      refine post_next ?_
                      refine code_cond_f rfl ?_
                      refine code_skip ?_
                      refine post_next ?_
                      refine code_seq ?_
                      refine code_region ?_
                      refine op_call pl17 rfl rfl ((awake9_does _)) Parts.none ?_
                      rintro _ I84 _ hI84 ⟨rfl, rfl⟩
                      refine op_v (v_move rfl) rfl ?_
                      first
                        | (refine op_want rfl rfl ?_
                           refine op_v (v_move rfl) rfl ?_)
                        | (refine op_skip rfl rfl (by simp [undef]) rfl ?_)
                      by_cases h1 : mulG gs (rowL x) (rowL y) ≠ 1
                      · first
                          | (refine op_want rfl rfl ?_
                             first | refine op_v (v_cmptA rfl rfl rfl) rfl ?_ | refine op_v (v_cmpfA rfl rfl rfl) rfl ?_ | refine op_v (v_cmp rfl rfl rfl) rfl ?_)
                          | (refine op_skip rfl rfl (by simp [undef]) rfl ?_)
                        first
                          | (refine op_want rfl rfl ?_
                             refine op_v (v_move rfl) rfl ?_)
                          | (refine op_skip rfl rfl (by simp [undef]) rfl ?_)
                        first
                          | (refine op_want rfl rfl ?_
                             refine op_v (v_move rfl) rfl ?_)
                          | (refine op_skip rfl rfl (by simp [undef]) rfl ?_)
                        first
                          | (refine op_want rfl rfl ?_
                             first | refine op_v (v_cmptA rfl rfl rfl) rfl ?_ | refine op_v (v_cmpfA rfl rfl rfl) rfl ?_ | refine op_v (v_cmp rfl rfl rfl) rfl ?_)
                          | (refine op_skip rfl rfl (by simp [undef]) rfl ?_)
                        first
                          | (refine op_want rfl rfl ?_
                             first | refine op_v (v_pickt rfl rfl) rfl ?_ | refine op_v (v_pickf rfl rfl) rfl ?_ | refine op_v (v_pickb rfl rfl rfl) rfl ?_)
                          | (refine op_skip rfl rfl (by simp [undef]) rfl ?_)
                        first
                          | (refine op_want rfl rfl ?_
                             refine op_v (v_move rfl) rfl ?_)
                          | (refine op_skip rfl rfl (by simp [undef]) rfl ?_)
                        first
                          | (refine op_want rfl rfl ?_
                             refine op_v (v_move rfl) rfl ?_)
                          | (refine op_skip rfl rfl (by simp [undef]) rfl ?_)
                        first
                          | (refine op_want rfl rfl ?_
                             first | refine op_v (v_cmptA rfl rfl rfl) rfl ?_ | refine op_v (v_cmpfA rfl rfl rfl) rfl ?_ | refine op_v (v_cmp rfl rfl rfl) rfl ?_)
                          | (refine op_skip rfl rfl (by simp [undef]) rfl ?_)
                        first
                          | (refine op_want rfl rfl ?_
                             first | refine op_v (v_pickt rfl rfl) rfl ?_ | refine op_v (v_pickf rfl rfl) rfl ?_ | refine op_v (v_pickb rfl rfl rfl) rfl ?_)
                          | (refine op_skip rfl rfl (by simp [undef]) rfl ?_)
                        first | refine op_v (v_pickt rfl rfl) rfl ?_ | refine op_v (v_pickf rfl rfl) rfl ?_ | refine op_v (v_pickb rfl rfl rfl) rfl ?_
                        refine op_v (v_assign rfl) rfl ?_
                        refine ops_nil ?_
                        refine post_next ?_
                        refine code_ret ?_
                        refine post_ret (rs := [.tmp 8]) rfl (List.Perm.refl _) (.cons (.tmp rfl) .nil) (List.nil_sublist _) ?_
                        exact ⟨rfl, rfl⟩
                      · first
                          | (refine op_want rfl rfl ?_
                             first | refine op_v (v_cmptA rfl rfl rfl) rfl ?_ | refine op_v (v_cmpfA rfl rfl rfl) rfl ?_ | refine op_v (v_cmp rfl rfl rfl) rfl ?_)
                          | (refine op_skip rfl rfl (by simp [undef]) rfl ?_)
                        first
                          | (refine op_want rfl rfl ?_
                             refine op_v (v_move rfl) rfl ?_)
                          | (refine op_skip rfl rfl (by simp [undef]) rfl ?_)
                        first
                          | (refine op_want rfl rfl ?_
                             refine op_v (v_move rfl) rfl ?_)
                          | (refine op_skip rfl rfl (by simp [undef]) rfl ?_)
                        by_cases h2 : mulG gs (rowL y) (rowL z) ≠ 1
                        · first
                            | (refine op_want rfl rfl ?_
                               first | refine op_v (v_cmptA rfl rfl rfl) rfl ?_ | refine op_v (v_cmpfA rfl rfl rfl) rfl ?_ | refine op_v (v_cmp rfl rfl rfl) rfl ?_)
                            | (refine op_skip rfl rfl (by simp [undef]) rfl ?_)
                          first
                            | (refine op_want rfl rfl ?_
                               first | refine op_v (v_pickt rfl rfl) rfl ?_ | refine op_v (v_pickf rfl rfl) rfl ?_ | refine op_v (v_pickb rfl rfl rfl) rfl ?_)
                            | (refine op_skip rfl rfl (by simp [undef]) rfl ?_)
                          first
                            | (refine op_want rfl rfl ?_
                               refine op_v (v_move rfl) rfl ?_)
                            | (refine op_skip rfl rfl (by simp [undef]) rfl ?_)
                          first
                            | (refine op_want rfl rfl ?_
                               refine op_v (v_move rfl) rfl ?_)
                            | (refine op_skip rfl rfl (by simp [undef]) rfl ?_)
                          first
                            | (refine op_want rfl rfl ?_
                               first | refine op_v (v_cmptA rfl rfl rfl) rfl ?_ | refine op_v (v_cmpfA rfl rfl rfl) rfl ?_ | refine op_v (v_cmp rfl rfl rfl) rfl ?_)
                            | (refine op_skip rfl rfl (by simp [undef]) rfl ?_)
                          first
                            | (refine op_want rfl rfl ?_
                               first | refine op_v (v_pickt rfl rfl) rfl ?_ | refine op_v (v_pickf rfl rfl) rfl ?_ | refine op_v (v_pickb rfl rfl rfl) rfl ?_)
                            | (refine op_skip rfl rfl (by simp [undef]) rfl ?_)
                          first | refine op_v (v_pickt rfl rfl) rfl ?_ | refine op_v (v_pickf rfl rfl) rfl ?_ | refine op_v (v_pickb rfl rfl rfl) rfl ?_
                          refine op_v (v_assign rfl) rfl ?_
                          refine ops_nil ?_
                          refine post_next ?_
                          refine code_ret ?_
                          refine post_ret (rs := [.tmp 8]) rfl (List.Perm.refl _) (.cons (.tmp rfl) .nil) (List.nil_sublist _) ?_
                          exact ⟨rfl, rfl⟩
                        · have h3 := mulG_trans hX hY hZ (by omega) (show mulG gs (rowL y) (rowL z) = 1 by omega)
                          rw [h3]
                          first
                            | (refine op_want rfl rfl ?_
                               first | refine op_v (v_cmptA rfl rfl rfl) rfl ?_ | refine op_v (v_cmpfA rfl rfl rfl) rfl ?_ | refine op_v (v_cmp rfl rfl rfl) rfl ?_)
                            | (refine op_skip rfl rfl (by simp [undef]) rfl ?_)
                          first
                            | (refine op_want rfl rfl ?_
                               first | refine op_v (v_pickt rfl rfl) rfl ?_ | refine op_v (v_pickf rfl rfl) rfl ?_ | refine op_v (v_pickb rfl rfl rfl) rfl ?_)
                            | (refine op_skip rfl rfl (by simp [undef]) rfl ?_)
                          first
                            | (refine op_want rfl rfl ?_
                               refine op_v (v_move rfl) rfl ?_)
                            | (refine op_skip rfl rfl (by simp [undef]) rfl ?_)
                          first
                            | (refine op_want rfl rfl ?_
                               refine op_v (v_move rfl) rfl ?_)
                            | (refine op_skip rfl rfl (by simp [undef]) rfl ?_)
                          first
                            | (refine op_want rfl rfl ?_
                               first | refine op_v (v_cmptA rfl rfl rfl) rfl ?_ | refine op_v (v_cmpfA rfl rfl rfl) rfl ?_ | refine op_v (v_cmp rfl rfl rfl) rfl ?_)
                            | (refine op_skip rfl rfl (by simp [undef]) rfl ?_)
                          first
                            | (refine op_want rfl rfl ?_
                               first | refine op_v (v_pickt rfl rfl) rfl ?_ | refine op_v (v_pickf rfl rfl) rfl ?_ | refine op_v (v_pickb rfl rfl rfl) rfl ?_)
                            | (refine op_skip rfl rfl (by simp [undef]) rfl ?_)
                          first | refine op_v (v_pickt rfl rfl) rfl ?_ | refine op_v (v_pickf rfl rfl) rfl ?_ | refine op_v (v_pickb rfl rfl rfl) rfl ?_
                          refine op_v (v_assign rfl) rfl ?_
                          refine ops_nil ?_
                          refine post_next ?_
                          refine code_ret ?_
                          refine post_ret (rs := [.tmp 8]) rfl (List.Perm.refl _) (.cons (.tmp rfl) .nil) (List.nil_sublist _) ?_
                          exact ⟨rfl, rfl⟩
                    · have e10' : x.neg = false := by simpa using e10
                      rw [e10']
                      first
                        | (refine op_want rfl rfl ?_
                           first | refine op_v (v_pickt rfl rfl) rfl ?_ | refine op_v (v_pickf rfl rfl) rfl ?_ | refine op_v (v_pickb rfl rfl rfl) rfl ?_)
                        | (refine op_skip rfl rfl (by simp [undef]) rfl ?_)
                      first
                        | (refine op_want rfl rfl ?_
                           refine op_v (v_move rfl) rfl ?_)
                        | (refine op_skip rfl rfl (by simp [undef]) rfl ?_)
                      first
                        | (refine op_want rfl rfl ?_
                           refine op_v (v_move rfl) rfl ?_)
                        | (refine op_skip rfl rfl (by simp [undef]) rfl ?_)
                      first
                        | (refine op_want rfl rfl ?_
                           first | refine op_v (v_cmptA rfl rfl rfl) rfl ?_ | refine op_v (v_cmpfA rfl rfl rfl) rfl ?_ | refine op_v (v_cmp rfl rfl rfl) rfl ?_)
                        | (refine op_skip rfl rfl (by simp [undef]) rfl ?_)
                      first
                        | (refine op_want rfl rfl ?_
                           first | refine op_v (v_pickt rfl rfl) rfl ?_ | refine op_v (v_pickf rfl rfl) rfl ?_ | refine op_v (v_pickb rfl rfl rfl) rfl ?_)
                        | (refine op_skip rfl rfl (by simp [undef]) rfl ?_)
                      first | refine op_v (v_pickt rfl rfl) rfl ?_ | refine op_v (v_pickf rfl rfl) rfl ?_ | refine op_v (v_pickb rfl rfl rfl) rfl ?_
                      refine ops_nil ?_
                      refine post_next ?_
                      refine code_cond_f rfl ?_
                      refine code_skip ?_
                      refine post_next ?_
                      refine code_seq ?_
                      refine code_region ?_
                      refine op_call pl17 rfl rfl ((awake9_does _)) Parts.none ?_
                      rintro _ I84 _ hI84 ⟨rfl, rfl⟩
                      refine op_v (v_move rfl) rfl ?_
                      first
                        | (refine op_want rfl rfl ?_
                           refine op_v (v_move rfl) rfl ?_)
                        | (refine op_skip rfl rfl (by simp [undef]) rfl ?_)
                      by_cases h1 : mulG gs (rowL x) (rowL y) ≠ 1
                      · first
                          | (refine op_want rfl rfl ?_
                             first | refine op_v (v_cmptA rfl rfl rfl) rfl ?_ | refine op_v (v_cmpfA rfl rfl rfl) rfl ?_ | refine op_v (v_cmp rfl rfl rfl) rfl ?_)
                          | (refine op_skip rfl rfl (by simp [undef]) rfl ?_)
                        first
                          | (refine op_want rfl rfl ?_
                             refine op_v (v_move rfl) rfl ?_)
                          | (refine op_skip rfl rfl (by simp [undef]) rfl ?_)
                        first
                          | (refine op_want rfl rfl ?_
                             refine op_v (v_move rfl) rfl ?_)
                          | (refine op_skip rfl rfl (by simp [undef]) rfl ?_)
                        first
                          | (refine op_want rfl rfl ?_
                             first | refine op_v (v_cmptA rfl rfl rfl) rfl ?_ | refine op_v (v_cmpfA rfl rfl rfl) rfl ?_ | refine op_v (v_cmp rfl rfl rfl) rfl ?_)
                          | (refine op_skip rfl rfl (by simp [undef]) rfl ?_)
                        first
                          | (refine op_want rfl rfl ?_
                             first | refine op_v (v_pickt rfl rfl) rfl ?_ | refine op_v (v_pickf rfl rfl) rfl ?_ | refine op_v (v_pickb rfl rfl rfl) rfl ?_)
                          | (refine op_skip rfl rfl (by simp [undef]) rfl ?_)
                        first
                          | (refine op_want rfl rfl ?_
                             refine op_v (v_move rfl) rfl ?_)
                          | (refine op_skip rfl rfl (by simp [undef]) rfl ?_)
                        first
                          | (refine op_want rfl rfl ?_
                             refine op_v (v_move rfl) rfl ?_)
                          | (refine op_skip rfl rfl (by simp [undef]) rfl ?_)
                        first
                          | (refine op_want rfl rfl ?_
                             first | refine op_v (v_cmptA rfl rfl rfl) rfl ?_ | refine op_v (v_cmpfA rfl rfl rfl) rfl ?_ | refine op_v (v_cmp rfl rfl rfl) rfl ?_)
                          | (refine op_skip rfl rfl (by simp [undef]) rfl ?_)
                        first
                          | (refine op_want rfl rfl ?_
                             first | refine op_v (v_pickt rfl rfl) rfl ?_ | refine op_v (v_pickf rfl rfl) rfl ?_ | refine op_v (v_pickb rfl rfl rfl) rfl ?_)
                          | (refine op_skip rfl rfl (by simp [undef]) rfl ?_)
                        first | refine op_v (v_pickt rfl rfl) rfl ?_ | refine op_v (v_pickf rfl rfl) rfl ?_ | refine op_v (v_pickb rfl rfl rfl) rfl ?_
                        refine op_v (v_assign rfl) rfl ?_
                        refine ops_nil ?_
                        refine post_next ?_
                        refine code_ret ?_
                        refine post_ret (rs := [.tmp 8]) rfl (List.Perm.refl _) (.cons (.tmp rfl) .nil) (List.nil_sublist _) ?_
                        exact ⟨rfl, rfl⟩
                      · first
                          | (refine op_want rfl rfl ?_
                             first | refine op_v (v_cmptA rfl rfl rfl) rfl ?_ | refine op_v (v_cmpfA rfl rfl rfl) rfl ?_ | refine op_v (v_cmp rfl rfl rfl) rfl ?_)
                          | (refine op_skip rfl rfl (by simp [undef]) rfl ?_)
                        first
                          | (refine op_want rfl rfl ?_
                             refine op_v (v_move rfl) rfl ?_)
                          | (refine op_skip rfl rfl (by simp [undef]) rfl ?_)
                        first
                          | (refine op_want rfl rfl ?_
                             refine op_v (v_move rfl) rfl ?_)
                          | (refine op_skip rfl rfl (by simp [undef]) rfl ?_)
                        by_cases h2 : mulG gs (rowL y) (rowL z) ≠ 1
                        · first
                            | (refine op_want rfl rfl ?_
                               first | refine op_v (v_cmptA rfl rfl rfl) rfl ?_ | refine op_v (v_cmpfA rfl rfl rfl) rfl ?_ | refine op_v (v_cmp rfl rfl rfl) rfl ?_)
                            | (refine op_skip rfl rfl (by simp [undef]) rfl ?_)
                          first
                            | (refine op_want rfl rfl ?_
                               first | refine op_v (v_pickt rfl rfl) rfl ?_ | refine op_v (v_pickf rfl rfl) rfl ?_ | refine op_v (v_pickb rfl rfl rfl) rfl ?_)
                            | (refine op_skip rfl rfl (by simp [undef]) rfl ?_)
                          first
                            | (refine op_want rfl rfl ?_
                               refine op_v (v_move rfl) rfl ?_)
                            | (refine op_skip rfl rfl (by simp [undef]) rfl ?_)
                          first
                            | (refine op_want rfl rfl ?_
                               refine op_v (v_move rfl) rfl ?_)
                            | (refine op_skip rfl rfl (by simp [undef]) rfl ?_)
                          first
                            | (refine op_want rfl rfl ?_
                               first | refine op_v (v_cmptA rfl rfl rfl) rfl ?_ | refine op_v (v_cmpfA rfl rfl rfl) rfl ?_ | refine op_v (v_cmp rfl rfl rfl) rfl ?_)
                            | (refine op_skip rfl rfl (by simp [undef]) rfl ?_)
                          first
                            | (refine op_want rfl rfl ?_
                               first | refine op_v (v_pickt rfl rfl) rfl ?_ | refine op_v (v_pickf rfl rfl) rfl ?_ | refine op_v (v_pickb rfl rfl rfl) rfl ?_)
                            | (refine op_skip rfl rfl (by simp [undef]) rfl ?_)
                          first | refine op_v (v_pickt rfl rfl) rfl ?_ | refine op_v (v_pickf rfl rfl) rfl ?_ | refine op_v (v_pickb rfl rfl rfl) rfl ?_
                          refine op_v (v_assign rfl) rfl ?_
                          refine ops_nil ?_
                          refine post_next ?_
                          refine code_ret ?_
                          refine post_ret (rs := [.tmp 8]) rfl (List.Perm.refl _) (.cons (.tmp rfl) .nil) (List.nil_sublist _) ?_
                          exact ⟨rfl, rfl⟩
                        · have h3 := mulG_trans hX hY hZ (by omega) (show mulG gs (rowL y) (rowL z) = 1 by omega)
                          rw [h3]
                          first
                            | (refine op_want rfl rfl ?_
                               first | refine op_v (v_cmptA rfl rfl rfl) rfl ?_ | refine op_v (v_cmpfA rfl rfl rfl) rfl ?_ | refine op_v (v_cmp rfl rfl rfl) rfl ?_)
                            | (refine op_skip rfl rfl (by simp [undef]) rfl ?_)
                          first
                            | (refine op_want rfl rfl ?_
                               first | refine op_v (v_pickt rfl rfl) rfl ?_ | refine op_v (v_pickf rfl rfl) rfl ?_ | refine op_v (v_pickb rfl rfl rfl) rfl ?_)
                            | (refine op_skip rfl rfl (by simp [undef]) rfl ?_)
                          first
                            | (refine op_want rfl rfl ?_
                               refine op_v (v_move rfl) rfl ?_)
                            | (refine op_skip rfl rfl (by simp [undef]) rfl ?_)
                          first
                            | (refine op_want rfl rfl ?_
                               refine op_v (v_move rfl) rfl ?_)
                            | (refine op_skip rfl rfl (by simp [undef]) rfl ?_)
                          first
                            | (refine op_want rfl rfl ?_
                               first | refine op_v (v_cmptA rfl rfl rfl) rfl ?_ | refine op_v (v_cmpfA rfl rfl rfl) rfl ?_ | refine op_v (v_cmp rfl rfl rfl) rfl ?_)
                            | (refine op_skip rfl rfl (by simp [undef]) rfl ?_)
                          first
                            | (refine op_want rfl rfl ?_
                               first | refine op_v (v_pickt rfl rfl) rfl ?_ | refine op_v (v_pickf rfl rfl) rfl ?_ | refine op_v (v_pickb rfl rfl rfl) rfl ?_)
                            | (refine op_skip rfl rfl (by simp [undef]) rfl ?_)
                          first | refine op_v (v_pickt rfl rfl) rfl ?_ | refine op_v (v_pickf rfl rfl) rfl ?_ | refine op_v (v_pickb rfl rfl rfl) rfl ?_
                          refine op_v (v_assign rfl) rfl ?_
                          refine ops_nil ?_
                          refine post_next ?_
                          refine code_ret ?_
                          refine post_ret (rs := [.tmp 8]) rfl (List.Perm.refl _) (.cons (.tmp rfl) .nil) (List.nil_sublist _) ?_
                          exact ⟨rfl, rfl⟩
                  · have e9' : oppL x y = false := by simpa using e9
                    rw [e9']
                    first
                      | (refine op_want rfl rfl ?_
                         refine op_v (v_move rfl) rfl ?_)
                      | (refine op_skip rfl rfl (by simp [undef]) rfl ?_)
                    first
                      | (refine op_want rfl rfl ?_
                         first | refine op_v (v_fieldB 0 Try.underlying27 rfl rfl fz4 rfl) rfl ?_ | refine op_v (v_fieldI 0 Try.underlying27 rfl rfl fz4 rfl (by assumption)) rfl ?_ | refine op_v (v_field Try.underlying27 rfl fz4 rfl rfl) rfl ?_)
                      | (refine op_skip rfl rfl (by simp [undef]) rfl ?_)
                    first
                      | (refine op_want rfl rfl ?_
                         refine op_v (v_loadA ty4 rfl rfl) rfl ?_)
                      | (refine op_skip rfl rfl (by simp [undef]) rfl ?_)
                    first
                      | (refine op_want rfl rfl ?_
                         first | refine op_v (v_pickt rfl rfl) rfl ?_ | refine op_v (v_pickf rfl rfl) rfl ?_ | refine op_v (v_pickb rfl rfl rfl) rfl ?_)
                      | (refine op_skip rfl rfl (by simp [undef]) rfl ?_)
                    first
                      | (refine op_want rfl rfl ?_
                         refine op_v (v_move rfl) rfl ?_)
                      | (refine op_skip rfl rfl (by simp [undef]) rfl ?_)
                    first
                      | (refine op_want rfl rfl ?_
                         refine op_v (v_move rfl) rfl ?_)
                      | (refine op_skip rfl rfl (by simp [undef]) rfl ?_)
                    first
                      | (refine op_want rfl rfl ?_
                         first | refine op_v (v_cmptA rfl rfl rfl) rfl ?_ | refine op_v (v_cmpfA rfl rfl rfl) rfl ?_ | refine op_v (v_cmp rfl rfl rfl) rfl ?_)
                      | (refine op_skip rfl rfl (by simp [undef]) rfl ?_)
                    first
                      | (refine op_want rfl rfl ?_
                         first | refine op_v (v_pickt rfl rfl) rfl ?_ | refine op_v (v_pickf rfl rfl) rfl ?_ | refine op_v (v_pickb rfl rfl rfl) rfl ?_)
                      | (refine op_skip rfl rfl (by simp [undef]) rfl ?_)
                    first | refine op_v (v_pickt rfl rfl) rfl ?_ | refine op_v (v_pickf rfl rfl) rfl ?_ | refine op_v (v_pickb rfl rfl rfl) rfl ?_
                    refine ops_nil ?_
                    refine post_next ?_
                    refine code_cond_f rfl ?_
                    refine code_skip ?_
                    refine post_next ?_
                    refine code_seq ?_
                    refine code_region ?_
                    refine op_call pl17 rfl rfl ((awake9_does _)) Parts.none ?_
                    rintro _ I84 _ hI84 ⟨rfl, rfl⟩
                    refine op_v (v_move rfl) rfl ?_
                    first
                      | (refine op_want rfl rfl ?_
                         refine op_v (v_move rfl) rfl ?_)
                      | (refine op_skip rfl rfl (by simp [undef]) rfl ?_)
                    by_cases h1 : mulG gs (rowL x) (rowL y) ≠ 1
                    · first
                        | (refine op_want rfl rfl ?_
                           first | refine op_v (v_cmptA rfl rfl rfl) rfl ?_ | refine op_v (v_cmpfA rfl rfl rfl) rfl ?_ | refine op_v (v_cmp rfl rfl rfl) rfl ?_)
                        | (refine op_skip rfl rfl (by simp [undef]) rfl ?_)
                      first
                        | (refine op_want rfl rfl ?_
                           refine op_v (v_move rfl) rfl ?_)
                        | (refine op_skip rfl rfl (by simp [undef]) rfl ?_)
                      first
                        | (refine op_want rfl rfl ?_
                           refine op_v (v_move rfl) rfl ?_)
                        | (refine op_skip rfl rfl (by simp [undef]) rfl ?_)
                      first
                        | (refine op_want rfl rfl ?_
                           first | refine op_v (v_cmptA rfl rfl rfl) rfl ?_ | refine op_v (v_cmpfA rfl rfl rfl) rfl ?_ | refine op_v (v_cmp rfl rfl rfl) rfl ?_)
                        | (refine op_skip rfl rfl (by simp [undef]) rfl ?_)
                      first
                        | (refine op_want rfl rfl ?_
                           first | refine op_v (v_pickt rfl rfl) rfl ?_ | refine op_v (v_pickf rfl rfl) rfl ?_ | refine op_v (v_pickb rfl rfl rfl) rfl ?_)
                        | (refine op_skip rfl rfl (by simp [undef]) rfl ?_)
                      first
                        | (refine op_want rfl rfl ?_
                           refine op_v (v_move rfl) rfl ?_)
                        | (refine op_skip rfl rfl (by simp [undef]) rfl ?_)
                      first
                        | (refine op_want rfl rfl ?_
                           refine op_v (v_move rfl) rfl ?_)
                        | (refine op_skip rfl rfl (by simp [undef]) rfl ?_)
                      first
                        | (refine op_want rfl rfl ?_
                           first | refine op_v (v_cmptA rfl rfl rfl) rfl ?_ | refine op_v (v_cmpfA rfl rfl rfl) rfl ?_ | refine op_v (v_cmp rfl rfl rfl) rfl ?_)
                        | (refine op_skip rfl rfl (by simp [undef]) rfl ?_)
                      first
                        | (refine op_want rfl rfl ?_
                           first | refine op_v (v_pickt rfl rfl) rfl ?_ | refine op_v (v_pickf rfl rfl) rfl ?_ | refine op_v (v_pickb rfl rfl rfl) rfl ?_)
                        | (refine op_skip rfl rfl (by simp [undef]) rfl ?_)
                      first | refine op_v (v_pickt rfl rfl) rfl ?_ | refine op_v (v_pickf rfl rfl) rfl ?_ | refine op_v (v_pickb rfl rfl rfl) rfl ?_
                      refine op_v (v_assign rfl) rfl ?_
                      refine ops_nil ?_
                      refine post_next ?_
                      refine code_ret ?_
                      refine post_ret (rs := [.tmp 8]) rfl (List.Perm.refl _) (.cons (.tmp rfl) .nil) (List.nil_sublist _) ?_
                      exact ⟨rfl, rfl⟩
                    · first
                        | (refine op_want rfl rfl ?_
                           first | refine op_v (v_cmptA rfl rfl rfl) rfl ?_ | refine op_v (v_cmpfA rfl rfl rfl) rfl ?_ | refine op_v (v_cmp rfl rfl rfl) rfl ?_)
                        | (refine op_skip rfl rfl (by simp [undef]) rfl ?_)
                      first
                        | (refine op_want rfl rfl ?_
                           refine op_v (v_move rfl) rfl ?_)
                        | (refine op_skip rfl rfl (by simp [undef]) rfl ?_)
                      first
                        | (refine op_want rfl rfl ?_
                           refine op_v (v_move rfl) rfl ?_)
                        | (refine op_skip rfl rfl (by simp [undef]) rfl ?_)
                      by_cases h2 : mulG gs (rowL y) (rowL z) ≠ 1
                      · first
                          | (refine op_want rfl rfl ?_
                             first | refine op_v (v_cmptA rfl rfl rfl) rfl ?_ | refine op_v (v_cmpfA rfl rfl rfl) rfl ?_ | refine op_v (v_cmp rfl rfl rfl) rfl ?_)
                          | (refine op_skip rfl rfl (by simp [undef]) rfl ?_)
                        first
                          | (refine op_want rfl rfl ?_
                             first | refine op_v (v_pickt rfl rfl) rfl ?_ | refine op_v (v_pickf rfl rfl) rfl ?_ | refine op_v (v_pickb rfl rfl rfl) rfl ?_)
                          | (refine op_skip rfl rfl (by simp [undef]) rfl ?_)
                        first
                          | (refine op_want rfl rfl ?_
                             refine op_v (v_move rfl) rfl ?_)
                          | (refine op_skip rfl rfl (by simp [undef]) rfl ?_)
                        first
                          | (refine op_want rfl rfl ?_
                             refine op_v (v_move rfl) rfl ?_)
                          | (refine op_skip rfl rfl (by simp [undef]) rfl ?_)
                        first
                          | (refine op_want rfl rfl ?_
                             first | refine op_v (v_cmptA rfl rfl rfl) rfl ?_ | refine op_v (v_cmpfA rfl rfl rfl) rfl ?_ | refine op_v (v_cmp rfl rfl rfl) rfl ?_)
                          | (refine op_skip rfl rfl (by simp [undef]) rfl ?_)
                        first
                          | (refine op_want rfl rfl ?_
                             first | refine op_v (v_pickt rfl rfl) rfl ?_ | refine op_v (v_pickf rfl rfl) rfl ?_ | refine op_v (v_pickb rfl rfl rfl) rfl ?_)
                          | (refine op_skip rfl rfl (by simp [undef]) rfl ?_)
                        first | refine op_v (v_pickt rfl rfl) rfl ?_ | refine op_v (v_pickf rfl rfl) rfl ?_ | refine op_v (v_pickb rfl rfl rfl) rfl ?_
                        refine op_v (v_assign rfl) rfl ?_
                        refine ops_nil ?_
                        refine post_next ?_
                        refine code_ret ?_
                        refine post_ret (rs := [.tmp 8]) rfl (List.Perm.refl _) (.cons (.tmp rfl) .nil) (List.nil_sublist _) ?_
                        exact ⟨rfl, rfl⟩
                      · have h3 := mulG_trans hX hY hZ (by omega) (show mulG gs (rowL y) (rowL z) = 1 by omega)
                        rw [h3]
                        first
                          | (refine op_want rfl rfl ?_
                             first | refine op_v (v_cmptA rfl rfl rfl) rfl ?_ | refine op_v (v_cmpfA rfl rfl rfl) rfl ?_ | refine op_v (v_cmp rfl rfl rfl) rfl ?_)
                          | (refine op_skip rfl rfl (by simp [undef]) rfl ?_)
                        first
                          | (refine op_want rfl rfl ?_
                             first | refine op_v (v_pickt rfl rfl) rfl ?_ | refine op_v (v_pickf rfl rfl) rfl ?_ | refine op_v (v_pickb rfl rfl rfl) rfl ?_)
                          | (refine op_skip rfl rfl (by simp [undef]) rfl ?_)
                        first
                          | (refine op_want rfl rfl ?_
                             refine op_v (v_move rfl) rfl ?_)
                          | (refine op_skip rfl rfl (by simp [undef]) rfl ?_)
                        first
                          | (refine op_want rfl rfl ?_
                             refine op_v (v_move rfl) rfl ?_)
                          | (refine op_skip rfl rfl (by simp [undef]) rfl ?_)
                        first
                          | (refine op_want rfl rfl ?_
                             first | refine op_v (v_cmptA rfl rfl rfl) rfl ?_ | refine op_v (v_cmpfA rfl rfl rfl) rfl ?_ | refine op_v (v_cmp rfl rfl rfl) rfl ?_)
                          | (refine op_skip rfl rfl (by simp [undef]) rfl ?_)
                        first
                          | (refine op_want rfl rfl ?_
                             first | refine op_v (v_pickt rfl rfl) rfl ?_ | refine op_v (v_pickf rfl rfl) rfl ?_ | refine op_v (v_pickb rfl rfl rfl) rfl ?_)
                          | (refine op_skip rfl rfl (by simp [undef]) rfl ?_)
                        first | refine op_v (v_pickt rfl rfl) rfl ?_ | refine op_v (v_pickf rfl rfl) rfl ?_ | refine op_v (v_pickb rfl rfl rfl) rfl ?_
                        refine op_v (v_assign rfl) rfl ?_
                        refine ops_nil ?_
                        refine post_next ?_
                        refine code_ret ?_
                        refine post_ret (rs := [.tmp 8]) rfl (List.Perm.refl _) (.cons (.tmp rfl) .nil) (List.nil_sublist _) ?_
                        exact ⟨rfl, rfl⟩
        · have e4' : fewL z = false := by simpa using e4
          rw [e4']
          first
            | (refine op_want rfl rfl ?_
               refine op_v (v_not rfl) rfl ?_)
            | (refine op_skip rfl rfl (by simp [undef]) rfl ?_)
          first | refine op_v (v_pickt rfl rfl) rfl ?_ | refine op_v (v_pickf rfl rfl) rfl ?_ | refine op_v (v_pickb rfl rfl rfl) rfl ?_
          refine ops_nil ?_
          refine post_next ?_
          refine code_cond_t rfl ?_
          refine code_seq ?_
          refine code_region ?_
          refine op_v (v_assign rfl) rfl ?_
          refine ops_nil ?_
          refine post_next ?_
          refine code_ret ?_
          refine post_ret_then ?_
          refine post_ret (rs := [.tmp 8]) rfl (List.Perm.refl _) (.cons (.tmp rfl) .nil) (List.nil_sublist _) ?_
          exact ⟨rfl, rfl⟩
      · have e3' : fewL y = false := by simpa using e3
        rw [e3']
        first
          | (refine op_want rfl rfl ?_
             refine op_v (v_not rfl) rfl ?_)
          | (refine op_skip rfl rfl (by simp [undef]) rfl ?_)
        first | refine op_v (v_pickt rfl rfl) rfl ?_ | refine op_v (v_pickf rfl rfl) rfl ?_ | refine op_v (v_pickb rfl rfl rfl) rfl ?_
        refine op_v (v_move rfl) rfl ?_
        first
          | (refine op_want rfl rfl ?_
             refine op_v (v_loadA ty27 rfl rfl) rfl ?_)
          | (refine op_skip rfl rfl (by simp [undef]) rfl ?_)
        first
          | (refine op_want rfl rfl ?_
             refine op_call pl15 rfl rfl ((FewL_does (hc0.mono Imm.leA))) Parts.none ?_
             rintro v30 I30 _ hI30 ⟨rfl, rfl⟩)
          | (refine op_skip rfl rfl (by simp [undef]) rfl ?_)
        first
          | (refine op_want rfl rfl ?_
             refine op_v (v_not rfl) rfl ?_)
          | (refine op_skip rfl rfl (by simp [undef]) rfl ?_)
        first | refine op_v (v_pickt rfl rfl) rfl ?_ | refine op_v (v_pickf rfl rfl) rfl ?_ | refine op_v (v_pickb rfl rfl rfl) rfl ?_
        refine ops_nil ?_
        refine post_next ?_
        refine code_cond_t rfl ?_
        refine code_seq ?_
        refine code_region ?_
        refine op_v (v_assign rfl) rfl ?_
        refine ops_nil ?_
        refine post_next ?_
        refine code_ret ?_
        refine post_ret_then ?_
        refine post_ret (rs := [.tmp 8]) rfl (List.Perm.refl _) (.cons (.tmp rfl) .nil) (List.nil_sublist _) ?_
        exact ⟨rfl, rfl⟩
    · have e2' : fewL x = false := by simpa using e2
      rw [e2']
      first
        | (refine op_want rfl rfl ?_
           refine op_v (v_not rfl) rfl ?_)
        | (refine op_skip rfl rfl (by simp [undef]) rfl ?_)
      first | refine op_v (v_pickt rfl rfl) rfl ?_ | refine op_v (v_pickf rfl rfl) rfl ?_ | refine op_v (v_pickb rfl rfl rfl) rfl ?_
      refine op_v (v_move rfl) rfl ?_
      first
        | (refine op_want rfl rfl ?_
           refine op_v (v_loadA ty27 rfl rfl) rfl ?_)
        | (refine op_skip rfl rfl (by simp [undef]) rfl ?_)
      first
        | (refine op_want rfl rfl ?_
           refine op_call pl15 rfl rfl ((FewL_does (hb0.mono Imm.leA))) Parts.none ?_
           rintro v25 I25 _ hI25 ⟨rfl, rfl⟩)
        | (refine op_skip rfl rfl (by simp [undef]) rfl ?_)
      first
        | (refine op_want rfl rfl ?_
           refine op_v (v_not rfl) rfl ?_)
        | (refine op_skip rfl rfl (by simp [undef]) rfl ?_)
      first | refine op_v (v_pickt rfl rfl) rfl ?_ | refine op_v (v_pickf rfl rfl) rfl ?_ | refine op_v (v_pickb rfl rfl rfl) rfl ?_
      refine op_v (v_move rfl) rfl ?_
      first
        | (refine op_want rfl rfl ?_
           refine op_v (v_loadA ty27 rfl rfl) rfl ?_)
        | (refine op_skip rfl rfl (by simp [undef]) rfl ?_)
      first
        | (refine op_want rfl rfl ?_
           refine op_call pl15 rfl rfl ((FewL_does (hc0.mono Imm.leA))) Parts.none ?_
           rintro v30 I30 _ hI30 ⟨rfl, rfl⟩)
        | (refine op_skip rfl rfl (by simp [undef]) rfl ?_)
      first
        | (refine op_want rfl rfl ?_
           refine op_v (v_not rfl) rfl ?_)
        | (refine op_skip rfl rfl (by simp [undef]) rfl ?_)
      first | refine op_v (v_pickt rfl rfl) rfl ?_ | refine op_v (v_pickf rfl rfl) rfl ?_ | refine op_v (v_pickb rfl rfl rfl) rfl ?_
      refine ops_nil ?_
      refine post_next ?_
      refine code_cond_t rfl ?_
      refine code_seq ?_
      refine code_region ?_
      refine op_v (v_assign rfl) rfl ?_
      refine ops_nil ?_
      refine post_next ?_
      refine code_ret ?_
      refine post_ret_then ?_
      refine post_ret (rs := [.tmp 8]) rfl (List.Perm.refl _) (.cons (.tmp rfl) .nil) (List.nil_sublist _) ?_
      exact ⟨rfl, rfl⟩
  · have e1' : fewG gs = false := by simpa using e1
    rw [e1']
    refine op_v (v_not rfl) rfl ?_
    refine op_v (v_move rfl) rfl ?_
    first
      | (refine op_want rfl rfl ?_
         refine op_v (v_loadA ty27 rfl rfl) rfl ?_)
      | (refine op_skip rfl rfl (by simp [undef]) rfl ?_)
    first
      | (refine op_want rfl rfl ?_
         refine op_call pl15 rfl rfl ((FewL_does (ha0.mono Imm.leA))) Parts.none ?_
         rintro v20 I20 _ hI20 ⟨rfl, rfl⟩)
      | (refine op_skip rfl rfl (by simp [undef]) rfl ?_)
    first
      | (refine op_want rfl rfl ?_
         refine op_v (v_not rfl) rfl ?_)
      | (refine op_skip rfl rfl (by simp [undef]) rfl ?_)
    first | refine op_v (v_pickt rfl rfl) rfl ?_ | refine op_v (v_pickf rfl rfl) rfl ?_ | refine op_v (v_pickb rfl rfl rfl) rfl ?_
    refine op_v (v_move rfl) rfl ?_
    first
      | (refine op_want rfl rfl ?_
         refine op_v (v_loadA ty27 rfl rfl) rfl ?_)
      | (refine op_skip rfl rfl (by simp [undef]) rfl ?_)
    first
      | (refine op_want rfl rfl ?_
         refine op_call pl15 rfl rfl ((FewL_does (hb0.mono Imm.leA))) Parts.none ?_
         rintro v25 I25 _ hI25 ⟨rfl, rfl⟩)
      | (refine op_skip rfl rfl (by simp [undef]) rfl ?_)
    first
      | (refine op_want rfl rfl ?_
         refine op_v (v_not rfl) rfl ?_)
      | (refine op_skip rfl rfl (by simp [undef]) rfl ?_)
    first | refine op_v (v_pickt rfl rfl) rfl ?_ | refine op_v (v_pickf rfl rfl) rfl ?_ | refine op_v (v_pickb rfl rfl rfl) rfl ?_
    refine op_v (v_move rfl) rfl ?_
    first
      | (refine op_want rfl rfl ?_
         refine op_v (v_loadA ty27 rfl rfl) rfl ?_)
      | (refine op_skip rfl rfl (by simp [undef]) rfl ?_)
    first
      | (refine op_want rfl rfl ?_
         refine op_call pl15 rfl rfl ((FewL_does (hc0.mono Imm.leA))) Parts.none ?_
         rintro v30 I30 _ hI30 ⟨rfl, rfl⟩)
      | (refine op_skip rfl rfl (by simp [undef]) rfl ?_)
    first
      | (refine op_want rfl rfl ?_
         refine op_v (v_not rfl) rfl ?_)
      | (refine op_skip rfl rfl (by simp [undef]) rfl ?_)
    first | refine op_v (v_pickt rfl rfl) rfl ?_ | refine op_v (v_pickf rfl rfl) rfl ?_ | refine op_v (v_pickb rfl rfl rfl) rfl ?_
    refine ops_nil ?_
    refine post_next ?_
    refine code_cond_t rfl ?_
    refine code_seq ?_
    refine code_region ?_
    refine op_v (v_assign rfl) rfl ?_
    refine ops_nil ?_
    refine post_next ?_
    refine code_ret ?_
    refine post_ret_then ?_
    refine post_ret (rs := [.tmp 8]) rfl (List.Perm.refl _) (.cons (.tmp rfl) .nil) (List.nil_sublist _) ?_
    exact ⟨rfl, rfl⟩
end Go.Proofs.Ytegceppoioeeaaa
