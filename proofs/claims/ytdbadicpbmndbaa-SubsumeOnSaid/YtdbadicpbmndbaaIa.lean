/- Walk: what is handed on: the statement. -/
import Derived.Test.YtdbadicpbmndbaaSx
import Derived.Test.YtdbadicpbmndbaaZ4
set_option linter.unusedVariables false
set_option linter.unusedSimpArgs false
set_option linter.unnecessarySimpa false
/- short -/
namespace Go.Proofs.Ytdbadicpbmndbaa
open Go Lg

theorem SubsumeOn_does {I : Imm} {va vb vc : Value} {a b c : List Li} (ha : RepC I va a) (hb : RepC I vb b) (hc : RepC I vc c) :
    Does Try.prog 4 [va, vb, vc] I [] (fun v I' δ' => v = .bool true ∧ δ' = []) := by
  obtain ⟨aA, aC, hsh⟩ := RepE.shape ha
  subst hsh
  obtain ⟨bA, bC, xb, hsh, hcb, hbb, hcellb, hrowb⟩ := id hb
  subst hsh
  have hba := ha.small
  have hbx := hrowb.length
  refine Does.intro Try.func4 rfl Try.ntmps4 rfl fun w0 => ?_
  refine code_seq ?_
  refine code_region ?_
  refine op_v (v_assign rfl) rfl ?_
  refine ops_nil ?_
  refine post_next ?_
  refine code_seq ?_
  refine code_seq ?_
  refine code_region ?_
  refine op_v (v_move rfl) rfl ?_
  refine op_v (v_move rfl) rfl ?_
  refine op_call pl13 rfl rfl ((few15_does ha hb)) Parts.none ?_
  rintro v21 I21 _ hI21 ⟨⟨b21, rfl, hb21⟩, rfl⟩
  by_cases h22 : b21 = true
  · subst h22
    have hsa := (hb21 rfl).1.smM
    have hsb := (hb21 rfl).2.smM
    refine op_v (v_not rfl) rfl ?_
    refine op_v (v_move rfl) rfl ?_
    first
      | (refine op_want rfl rfl ?_
         refine op_v (v_move rfl) rfl ?_)
      | (refine op_skip rfl rfl (by simp [undef]) rfl ?_)
    first
      | (refine op_want rfl rfl ?_
         refine op_call pl23 rfl rfl ((RFew15_does (hc.mono Imm.leA))) Parts.none ?_
         rintro v25 I25 _ hI25 ⟨⟨b25, rfl, hb25⟩, rfl⟩)
      | (refine op_skip rfl rfl (by simp [undef]) rfl ?_)
    by_cases h26 : b25 = true
    · subst h26
      have hsc := (hb25 rfl).smM
      first
        | (refine op_want rfl rfl ?_
           refine op_v (v_not rfl) rfl ?_)
        | (refine op_skip rfl rfl (by simp [undef]) rfl ?_)
      first | refine op_v (v_pickt rfl rfl) rfl ?_ | refine op_v (v_pickf rfl rfl) rfl ?_ | refine op_v (v_pickb rfl rfl rfl) rfl ?_
      refine ops_nil ?_
      refine post_next ?_
      refine code_cond_f rfl ?_
      refine code_skip ?_
      refine post_next ?_
      refine code_seq ?_
      refine code_region ?_
      refine op_v (v_move rfl) rfl ?_
      refine op_v (v_move rfl) rfl ?_
      refine op_call pl16 rfl rfl ((Subsumes_does (ha.mono Imm.leA) (hb.mono Imm.leA) hsa hsb)) Parts.none ?_
      rintro v31 I31 _ hI31 ⟨⟨q31, rfl, hq31⟩, rfl⟩
      refine op_v (v_move rfl) rfl ?_
      refine op_v (v_extract rfl rfl) rfl ?_
      refine op_v (v_extract rfl rfl) rfl ?_
      refine op_v (v_assign rfl) rfl ?_
      refine op_v (v_assign rfl) rfl ?_
      refine ops_nil ?_
      refine post_next ?_
      refine code_seq ?_
      refine code_region ?_
      refine op_v (v_move rfl) rfl ?_
      refine op_v (v_move rfl) rfl ?_
      refine op_call pl16 rfl rfl ((Subsumes_does (hb.mono Imm.leA) (hc.mono Imm.leA) hsb hsc)) Parts.none ?_
      rintro v37 I37 _ hI37 ⟨⟨q37, rfl, hq37⟩, rfl⟩
      refine op_v (v_move rfl) rfl ?_
      refine op_v (v_extract rfl rfl) rfl ?_
      refine op_v (v_extract rfl rfl) rfl ?_
      refine op_v (v_assign rfl) rfl ?_
      refine op_v (v_assign rfl) rfl ?_
      refine ops_nil ?_
      refine post_next ?_
      refine code_seq ?_
      refine code_region ?_
      refine op_v (v_move rfl) rfl ?_
      refine op_v (v_move rfl) rfl ?_
      refine op_call pl16 rfl rfl ((Subsumes_does (ha.mono Imm.leA) (hc.mono Imm.leA) hsa hsc)) Parts.none ?_
      rintro v43 I43 _ hI43 ⟨⟨q43, rfl, hq43⟩, rfl⟩
      refine op_v (v_move rfl) rfl ?_
      refine op_v (v_extract rfl rfl) rfl ?_
      refine op_v (v_extract rfl rfl) rfl ?_
      refine op_v (v_assign rfl) rfl ?_
      refine op_v (v_assign rfl) rfl ?_
      refine ops_nil ?_
      refine post_next ?_
      refine code_seq ?_
      refine code_region ?_
      refine op_v (v_move rfl) rfl ?_
      refine op_v (v_move rfl) rfl ?_
      refine op_call pl17 rfl rfl ((Cut_does (ha.mono Imm.leA) (hb.mono Imm.leA) hsa hsb)) Parts.none ?_
      rintro v49 I49 _ hI49 ⟨hcut, rfl⟩
      obtain ⟨k, q, hsh, hkq⟩ := hcut.cases
      subst hsh
      refine op_v (v_move rfl) rfl ?_
      refine op_v (v_extract rfl rfl) rfl ?_
      refine op_v (v_extract rfl rfl) rfl ?_
      refine op_v (v_extract rfl rfl) rfl ?_
      refine op_v (v_assign rfl) rfl ?_
      refine op_v (v_assign rfl) rfl ?_
      refine op_v (v_assign rfl) rfl ?_
      refine ops_nil ?_
      refine post_next ?_
      refine code_seq ?_
      refine code_seq ?_
      refine code_region ?_
      refine op_v (v_move rfl) rfl ?_
      by_cases h54 : wrE a b ≠ 0
      · first | refine op_v (v_cmptA rfl rfl rfl) rfl ?_ | refine op_v (v_cmpfA rfl rfl rfl) rfl ?_ | refine op_v (v_cmp rfl rfl rfl) rfl ?_
        refine op_v (v_move rfl) rfl ?_
        first
          | (refine op_want rfl rfl ?_
             refine op_v (v_move rfl) rfl ?_)
          | (refine op_skip rfl rfl (by simp [undef]) rfl ?_)
        first
          | (refine op_want rfl rfl ?_
             first | refine op_v (v_cmptA rfl rfl rfl) rfl ?_ | refine op_v (v_cmpfA rfl rfl rfl) rfl ?_ | refine op_v (v_cmp rfl rfl rfl) rfl ?_)
          | (refine op_skip rfl rfl (by simp [undef]) rfl ?_)
        first | refine op_v (v_pickt rfl rfl) rfl ?_ | refine op_v (v_pickf rfl rfl) rfl ?_ | refine op_v (v_pickb rfl rfl rfl) rfl ?_
        refine op_v (v_move rfl) rfl ?_
        first
          | (refine op_want rfl rfl ?_
             refine op_v (v_move rfl) rfl ?_)
          | (refine op_skip rfl rfl (by simp [undef]) rfl ?_)
        first
          | (refine op_want rfl rfl ?_
             first | refine op_v (v_cmptA rfl rfl rfl) rfl ?_ | refine op_v (v_cmpfA rfl rfl rfl) rfl ?_ | refine op_v (v_cmp rfl rfl rfl) rfl ?_)
          | (refine op_skip rfl rfl (by simp [undef]) rfl ?_)
        first | refine op_v (v_pickt rfl rfl) rfl ?_ | refine op_v (v_pickf rfl rfl) rfl ?_ | refine op_v (v_pickb rfl rfl rfl) rfl ?_
        refine op_v (v_move rfl) rfl ?_
        first
          | (refine op_want rfl rfl ?_
             refine op_v (v_move rfl) rfl ?_)
          | (refine op_skip rfl rfl (by simp [undef]) rfl ?_)
        first
          | (refine op_want rfl rfl ?_
             first | refine op_v (v_cmptA rfl rfl rfl) rfl ?_ | refine op_v (v_cmpfA rfl rfl rfl) rfl ?_ | refine op_v (v_cmp rfl rfl rfl) rfl ?_)
          | (refine op_skip rfl rfl (by simp [undef]) rfl ?_)
        first | refine op_v (v_pickt rfl rfl) rfl ?_ | refine op_v (v_pickf rfl rfl) rfl ?_ | refine op_v (v_pickb rfl rfl rfl) rfl ?_
        refine ops_nil ?_
        refine post_next ?_
        refine code_cond_t rfl ?_
        refine code_seq ?_
        refine code_region ?_
        refine op_call pl18 rfl rfl ((awake15_does _)) Parts.none ?_
        rintro v67 I67 _ hI67 ⟨rfl, rfl⟩
        refine op_v (v_assign rfl) rfl ?_
        refine ops_nil ?_
        refine post_next ?_
        refine code_ret ?_
        refine post_ret_then ?_
        refine post_ret (rs := [.tmp 6]) rfl (List.Perm.refl _) (.cons (.tmp rfl) .nil) (List.nil_sublist _) ?_
        exact ⟨rfl, rfl⟩
      · first | refine op_v (v_cmptA rfl rfl rfl) rfl ?_ | refine op_v (v_cmpfA rfl rfl rfl) rfl ?_ | refine op_v (v_cmp rfl rfl rfl) rfl ?_
        refine op_v (v_move rfl) rfl ?_
        first
          | (refine op_want rfl rfl ?_
             refine op_v (v_move rfl) rfl ?_)
          | (refine op_skip rfl rfl (by simp [undef]) rfl ?_)
        by_cases h57 : wrE b c ≠ 0
        · first
            | (refine op_want rfl rfl ?_
               first | refine op_v (v_cmptA rfl rfl rfl) rfl ?_ | refine op_v (v_cmpfA rfl rfl rfl) rfl ?_ | refine op_v (v_cmp rfl rfl rfl) rfl ?_)
            | (refine op_skip rfl rfl (by simp [undef]) rfl ?_)
          first | refine op_v (v_pickt rfl rfl) rfl ?_ | refine op_v (v_pickf rfl rfl) rfl ?_ | refine op_v (v_pickb rfl rfl rfl) rfl ?_
          refine op_v (v_move rfl) rfl ?_
          first
            | (refine op_want rfl rfl ?_
               refine op_v (v_move rfl) rfl ?_)
            | (refine op_skip rfl rfl (by simp [undef]) rfl ?_)
          first
            | (refine op_want rfl rfl ?_
               first | refine op_v (v_cmptA rfl rfl rfl) rfl ?_ | refine op_v (v_cmpfA rfl rfl rfl) rfl ?_ | refine op_v (v_cmp rfl rfl rfl) rfl ?_)
            | (refine op_skip rfl rfl (by simp [undef]) rfl ?_)
          first | refine op_v (v_pickt rfl rfl) rfl ?_ | refine op_v (v_pickf rfl rfl) rfl ?_ | refine op_v (v_pickb rfl rfl rfl) rfl ?_
          refine op_v (v_move rfl) rfl ?_
          first
            | (refine op_want rfl rfl ?_
               refine op_v (v_move rfl) rfl ?_)
            | (refine op_skip rfl rfl (by simp [undef]) rfl ?_)
          first
            | (refine op_want rfl rfl ?_
               first | refine op_v (v_cmptA rfl rfl rfl) rfl ?_ | refine op_v (v_cmpfA rfl rfl rfl) rfl ?_ | refine op_v (v_cmp rfl rfl rfl) rfl ?_)
            | (refine op_skip rfl rfl (by simp [undef]) rfl ?_)
          first | refine op_v (v_pickt rfl rfl) rfl ?_ | refine op_v (v_pickf rfl rfl) rfl ?_ | refine op_v (v_pickb rfl rfl rfl) rfl ?_
          refine ops_nil ?_
          refine post_next ?_
          refine code_cond_t rfl ?_
          refine code_seq ?_
          refine code_region ?_
          refine op_call pl18 rfl rfl ((awake15_does _)) Parts.none ?_
          rintro v67 I67 _ hI67 ⟨rfl, rfl⟩
          refine op_v (v_assign rfl) rfl ?_
          refine ops_nil ?_
          refine post_next ?_
          refine code_ret ?_
          refine post_ret_then ?_
          refine post_ret (rs := [.tmp 6]) rfl (List.Perm.refl _) (.cons (.tmp rfl) .nil) (List.nil_sublist _) ?_
          exact ⟨rfl, rfl⟩
        · first
            | (refine op_want rfl rfl ?_
               first | refine op_v (v_cmptA rfl rfl rfl) rfl ?_ | refine op_v (v_cmpfA rfl rfl rfl) rfl ?_ | refine op_v (v_cmp rfl rfl rfl) rfl ?_)
            | (refine op_skip rfl rfl (by simp [undef]) rfl ?_)
          first | refine op_v (v_pickt rfl rfl) rfl ?_ | refine op_v (v_pickf rfl rfl) rfl ?_ | refine op_v (v_pickb rfl rfl rfl) rfl ?_
          refine op_v (v_move rfl) rfl ?_
          first
            | (refine op_want rfl rfl ?_
               refine op_v (v_move rfl) rfl ?_)
            | (refine op_skip rfl rfl (by simp [undef]) rfl ?_)
          by_cases h61 : wrE a c ≠ 0
          · first
              | (refine op_want rfl rfl ?_
                 first | refine op_v (v_cmptA rfl rfl rfl) rfl ?_ | refine op_v (v_cmpfA rfl rfl rfl) rfl ?_ | refine op_v (v_cmp rfl rfl rfl) rfl ?_)
              | (refine op_skip rfl rfl (by simp [undef]) rfl ?_)
            first | refine op_v (v_pickt rfl rfl) rfl ?_ | refine op_v (v_pickf rfl rfl) rfl ?_ | refine op_v (v_pickb rfl rfl rfl) rfl ?_
            refine op_v (v_move rfl) rfl ?_
            first
              | (refine op_want rfl rfl ?_
                 refine op_v (v_move rfl) rfl ?_)
              | (refine op_skip rfl rfl (by simp [undef]) rfl ?_)
            first
              | (refine op_want rfl rfl ?_
                 first | refine op_v (v_cmptA rfl rfl rfl) rfl ?_ | refine op_v (v_cmpfA rfl rfl rfl) rfl ?_ | refine op_v (v_cmp rfl rfl rfl) rfl ?_)
              | (refine op_skip rfl rfl (by simp [undef]) rfl ?_)
            first | refine op_v (v_pickt rfl rfl) rfl ?_ | refine op_v (v_pickf rfl rfl) rfl ?_ | refine op_v (v_pickb rfl rfl rfl) rfl ?_
            refine ops_nil ?_
            refine post_next ?_
            refine code_cond_t rfl ?_
            refine code_seq ?_
            refine code_region ?_
            refine op_call pl18 rfl rfl ((awake15_does _)) Parts.none ?_
            rintro v67 I67 _ hI67 ⟨rfl, rfl⟩
            refine op_v (v_assign rfl) rfl ?_
            refine ops_nil ?_
            refine post_next ?_
            refine code_ret ?_
            refine post_ret_then ?_
            refine post_ret (rs := [.tmp 6]) rfl (List.Perm.refl _) (.cons (.tmp rfl) .nil) (List.nil_sublist _) ?_
            exact ⟨rfl, rfl⟩
          · have hab : wrE a b = 0 := by omega
            have hbc : wrE b c = 0 := by omega
            have hac : wrE a c = 0 := by omega
            first
              | (refine op_want rfl rfl ?_
                 first | refine op_v (v_cmptA rfl rfl rfl) rfl ?_ | refine op_v (v_cmpfA rfl rfl rfl) rfl ?_ | refine op_v (v_cmp rfl rfl rfl) rfl ?_)
              | (refine op_skip rfl rfl (by simp [undef]) rfl ?_)
            first | refine op_v (v_pickt rfl rfl) rfl ?_ | refine op_v (v_pickf rfl rfl) rfl ?_ | refine op_v (v_pickb rfl rfl rfl) rfl ?_
            refine op_v (v_move rfl) rfl ?_
            first
              | (refine op_want rfl rfl ?_
                 refine op_v (v_move rfl) rfl ?_)
              | (refine op_skip rfl rfl (by simp [undef]) rfl ?_)
            first
              | (refine op_want rfl rfl ?_
                 refine op_v (v_cmpf rfl rfl rfl (by omega)) rfl ?_)
              | (refine op_skip rfl rfl (by simp [undef]) rfl ?_)
            first | refine op_v (v_pickt rfl rfl) rfl ?_ | refine op_v (v_pickf rfl rfl) rfl ?_ | refine op_v (v_pickb rfl rfl rfl) rfl ?_
            refine ops_nil ?_
            refine post_next ?_
            refine code_cond_f rfl ?_
            refine code_skip ?_
            refine post_next ?_
            refine code_seq ?_
            refine code_seq ?_
            refine code_region ?_
            refine op_v (v_move rfl) rfl ?_
            by_cases h69 : q31 = true
            · subst h69
              have hs1 := (hq31.1 rfl).2
              have hlen := Sub_len hs1
              refine op_v (v_move rfl) rfl ?_
              first
                | (refine op_want rfl rfl ?_
                   refine op_v (v_move rfl) rfl ?_)
                | (refine op_skip rfl rfl (by simp [undef]) rfl ?_)
              by_cases h71 : q37 = true
              · subst h71
                have hz : q43 = true := hq43.2 ⟨hac, Sub_trans hs1 (hq37.1 rfl).2⟩
                subst hz
                first | refine op_v (v_pickt rfl rfl) rfl ?_ | refine op_v (v_pickf rfl rfl) rfl ?_ | refine op_v (v_pickb rfl rfl rfl) rfl ?_
                refine op_v (v_move rfl) rfl ?_
                first
                  | (refine op_want rfl rfl ?_
                     refine op_v (v_move rfl) rfl ?_)
                  | (refine op_skip rfl rfl (by simp [undef]) rfl ?_)
                first
                  | (refine op_want rfl rfl ?_
                     refine op_v (v_not rfl) rfl ?_)
                  | (refine op_skip rfl rfl (by simp [undef]) rfl ?_)
                first | refine op_v (v_pickt rfl rfl) rfl ?_ | refine op_v (v_pickf rfl rfl) rfl ?_ | refine op_v (v_pickb rfl rfl rfl) rfl ?_
                refine op_v (v_move rfl) rfl ?_
                first
                  | (refine op_want rfl rfl ?_
                     refine op_v (v_move rfl) rfl ?_)
                  | (refine op_skip rfl rfl (by simp [undef]) rfl ?_)
                first
                  | (refine op_want rfl rfl ?_
                     refine op_v (v_move rfl) rfl ?_)
                  | (refine op_skip rfl rfl (by simp [undef]) rfl ?_)
                first
                  | (refine op_want rfl rfl ?_
                     refine op_v (v_move rfl) rfl ?_)
                  | (refine op_skip rfl rfl (by simp [undef]) rfl ?_)
                first
                  | (refine op_want rfl rfl ?_
                     refine op_v (v_len Try.underlying26 rfl) rfl ?_)
                  | (refine op_skip rfl rfl (by simp [undef]) rfl ?_)
                first
                  | (refine op_want rfl rfl ?_
                     refine op_v (v_move rfl) rfl ?_)
                  | (refine op_skip rfl rfl (by simp [undef]) rfl ?_)
                first
                  | (refine op_want rfl rfl ?_
                     refine op_v (v_len Try.underlying26 rfl) rfl ?_)
                  | (refine op_skip rfl rfl (by simp [undef]) rfl ?_)
                first
                  | (refine op_want rfl rfl ?_
                     refine op_v (v_cmpf rfl rfl rfl (by omega)) rfl ?_)
                  | (refine op_skip rfl rfl (by simp [undef]) rfl ?_)
                first
                  | (refine op_want rfl rfl ?_
                     first | refine op_v (v_pickt rfl rfl) rfl ?_ | refine op_v (v_pickf rfl rfl) rfl ?_ | refine op_v (v_pickb rfl rfl rfl) rfl ?_)
                  | (refine op_skip rfl rfl (by simp [undef]) rfl ?_)
                first | refine op_v (v_pickt rfl rfl) rfl ?_ | refine op_v (v_pickf rfl rfl) rfl ?_ | refine op_v (v_pickb rfl rfl rfl) rfl ?_
                refine op_v (v_move rfl) rfl ?_
                first
                  | (refine op_want rfl rfl ?_
                     refine op_v (v_move rfl) rfl ?_)
                  | (refine op_skip rfl rfl (by simp [undef]) rfl ?_)
                by_cases h88 : q = true
                · subst h88
                  obtain ⟨_, n, i, rfl, hP⟩ := hkq rfl
                  have hn : n < b.length := by obtain ⟨_, h, _⟩ := hP; exact h
                  first
                    | (refine op_want rfl rfl ?_
                       refine op_v (v_move rfl) rfl ?_)
                    | (refine op_skip rfl rfl (by simp [undef]) rfl ?_)
                  first
                    | (refine op_want rfl rfl ?_
                       refine op_v (v_move rfl) rfl ?_)
                    | (refine op_skip rfl rfl (by simp [undef]) rfl ?_)
                  first
                    | (refine op_want rfl rfl ?_
                       refine op_v (v_cmpf rfl rfl rfl (by omega)) rfl ?_)
                    | (refine op_skip rfl rfl (by simp [undef]) rfl ?_)
                  first
                    | (refine op_want rfl rfl ?_
                       refine op_v (v_move rfl) rfl ?_)
                    | (refine op_skip rfl rfl (by simp [undef]) rfl ?_)
                  first
                    | (refine op_want rfl rfl ?_
                       refine op_v (v_move rfl) rfl ?_)
                    | (refine op_skip rfl rfl (by simp [undef]) rfl ?_)
                  first
                    | (refine op_want rfl rfl ?_
                       refine op_v (v_move rfl) rfl ?_)
                    | (refine op_skip rfl rfl (by simp [undef]) rfl ?_)
                  first
                    | (refine op_want rfl rfl ?_
                       refine op_v (v_len Try.underlying26 rfl) rfl ?_)
                    | (refine op_skip rfl rfl (by simp [undef]) rfl ?_)
                  first
                    | (refine op_want rfl rfl ?_
                       refine op_v (v_cmpf rfl rfl rfl (by omega)) rfl ?_)
                    | (refine op_skip rfl rfl (by simp [undef]) rfl ?_)
                  first
                    | (refine op_want rfl rfl ?_
                       first | refine op_v (v_pickt rfl rfl) rfl ?_ | refine op_v (v_pickf rfl rfl) rfl ?_ | refine op_v (v_pickb rfl rfl rfl) rfl ?_)
                    | (refine op_skip rfl rfl (by simp [undef]) rfl ?_)
                  first
                    | (refine op_want rfl rfl ?_
                       first | refine op_v (v_pickt rfl rfl) rfl ?_ | refine op_v (v_pickf rfl rfl) rfl ?_ | refine op_v (v_pickb rfl rfl rfl) rfl ?_)
                    | (refine op_skip rfl rfl (by simp [undef]) rfl ?_)
                  first | refine op_v (v_pickt rfl rfl) rfl ?_ | refine op_v (v_pickf rfl rfl) rfl ?_ | refine op_v (v_pickb rfl rfl rfl) rfl ?_
                  refine ops_nil ?_
                  refine post_next ?_
                  refine code_cond_f rfl ?_
                  refine code_skip ?_
                  refine post_next ?_
                  refine code_seq ?_
                  refine code_seq ?_
                  refine code_region ?_
                  refine op_v (v_move rfl) rfl ?_
                  refine op_v (v_not rfl) rfl ?_
                  refine ops_nil ?_
                  refine post_next ?_
                  refine code_cond_f rfl ?_
                  refine code_skip ?_
                  refine post_next ?_
                  refine code_seq ?_
                  refine code_region ?_
                  refine op_v (v_assign rfl) rfl ?_
                  refine ops_nil ?_
                  refine post_next ?_
                  refine code_seq ?_
                  refine code_region ?_
                  refine op_v (v_move rfl) rfl ?_
                  refine op_v (v_move rfl) rfl ?_
                  refine op_v (v_move rfl) rfl ?_
                  refine op_v (v_sliceTo Try.underlying26 sz49 rfl rfl (by omega)) rfl ?_
                  refine OpsJ.view (View.nilRow 49 5) ?_
                  refine o_append Try.underlying26 bs49 rfl rfl rfl (fun v' => by repeat (first | exact Swap.here | apply Swap.there)) (Src.ofI ((hcellb.take (n * 5)).mono Imm.leA)) ((hrowb.take n (by omega)).length.trans (by rw [List.length_take, Nat.min_eq_left (by omega)])) (hrowb.take n (by omega)).one1 (by omega) (by omega) (fun a106 c106 => ?_)
                  refine op_v (v_assign rfl) rfl ?_
                  refine ops_nil ?_
                  refine post_next ?_
                  refine code_seq ?_
                  refine code_region ?_
                  refine op_v (v_move rfl) rfl ?_
                  refine op_v (v_move rfl) rfl ?_
                  refine op_v (v_move rfl) rfl ?_
                  refine op_v (v_addb (c := ((n + 1 : Nat) : Int)) rfl rfl (by omega) (by omega)) rfl ?_
                  refine op_v (v_sliceFrom (m := n + 1) Try.underlying26 sz49 rfl rfl (by omega) hcb) rfl ?_
                  refine o_append Try.underlying26 bs49 rfl rfl rfl (fun v' => by repeat (first | exact Swap.here | apply Swap.there)) (Src.ofI ((hcellb.cut (by rw [hbx]; exact Nat.mul_le_mul_right _ hcb)).mono Imm.leA)) ((hrowb.drop (n + 1) (by omega)).length.trans (by rw [List.length_drop])) (hrowb.drop (n + 1) (by omega)).one1 (by omega) (by omega) (fun a112 c112 => ?_)
                  refine op_v (v_assign rfl) rfl ?_
                  refine ops_nil ?_
                  refine post_next ?_
                  refine code_seq ?_
                  refine code_region ?_
                  refine OpsJ.freezeRow Del.here ?_
                  rintro I112 A112 C112 hI112 hq hc112 hl112 hcells112
                  cases hq
                  have hlenr : 0 + n + (b.length - (n + 1)) = (b.eraseIdx n).length := by rw [List.length_eraseIdx]; simp [hn]; omega
                  have hrest : RepC I112 (.slice a112 (0 + n + (b.length - (n + 1))) c112) (b.eraseIdx n) := ⟨a112, c112, _, by rw [hlenr], by rw [← hlenr]; exact hc112, by rw [← hlenr]; omega, hcells112, by rw [List.eraseIdx_eq_take_drop_succ]; exact ((hrowb.take n (by omega)).app (hrowb.drop (n + 1) (by omega))).mono Imm.leA⟩
                  have hserr : SmM (b.eraseIdx n) := fun x hx => hsb x (List.mem_of_mem_eraseIdx hx)
                  obtain ⟨_, hlb, _, hgb⟩ := wrE_ok hab
                  have her : wrE (b.eraseIdx n) b = 0 := wrE_zero (by rw [← hlenr]; omega) hlb (sides_erase hgb) hgb
                  refine op_v (v_move rfl) rfl ?_
                  refine op_v (v_move rfl) rfl ?_
                  refine op_call pl16 rfl rfl ((Subsumes_does hrest (hb.mono Imm.leA) hserr hsb)) Parts.none ?_
                  rintro v116 I116 _ hI116 ⟨⟨q116, rfl, hq116⟩, rfl⟩
                  have hq1 : q116 = true := hq116.2 ⟨her, Sub_rest (RiL_of hgb) n⟩
                  subst hq1
                  rw [her]
                  refine op_v (v_move rfl) rfl ?_
                  refine op_v (v_extract rfl rfl) rfl ?_
                  refine op_v (v_extract rfl rfl) rfl ?_
                  refine op_v (v_assign rfl) rfl ?_
                  refine op_v (v_assign rfl) rfl ?_
                  refine ops_nil ?_
                  refine post_next ?_
                  refine code_seq ?_
                  refine code_region ?_
                  refine op_call pl18 rfl rfl ((awake15_does _)) Parts.none ?_
                  rintro v119 I119 _ hI119 ⟨rfl, rfl⟩
                  refine op_v (v_move rfl) rfl ?_
                  first
                    | (refine op_want rfl rfl ?_
                       refine op_v (v_move rfl) rfl ?_)
                    | (refine op_skip rfl rfl (by simp [undef]) rfl ?_)
                  first | refine op_v (v_pickt rfl rfl) rfl ?_ | refine op_v (v_pickf rfl rfl) rfl ?_ | refine op_v (v_pickb rfl rfl rfl) rfl ?_
                  refine op_v (v_move rfl) rfl ?_
                  first
                    | (refine op_want rfl rfl ?_
                       refine op_v (v_move rfl) rfl ?_)
                    | (refine op_skip rfl rfl (by simp [undef]) rfl ?_)
                  first
                    | (refine op_want rfl rfl ?_
                       first | refine op_v (v_cmptA rfl rfl rfl) rfl ?_ | refine op_v (v_cmpfA rfl rfl rfl) rfl ?_ | refine op_v (v_cmp rfl rfl rfl) rfl ?_)
                    | (refine op_skip rfl rfl (by simp [undef]) rfl ?_)
                  first | refine op_v (v_pickt rfl rfl) rfl ?_ | refine op_v (v_pickf rfl rfl) rfl ?_ | refine op_v (v_pickb rfl rfl rfl) rfl ?_
                  refine op_v (v_assign rfl) rfl ?_
                  refine ops_nil ?_
                  refine post_next ?_
                  refine code_ret ?_
                  refine post_ret (rs := [.tmp 6]) rfl (List.Perm.refl _) (.cons (.tmp rfl) .nil) (List.nil_sublist _) ?_
                  exact ⟨rfl, rfl⟩
                · have h88' : q = false := by simpa using h88
                  subst h88'
                  first
                    | (refine op_want rfl rfl ?_
                       refine op_v (v_move rfl) rfl ?_)
                    | (refine op_skip rfl rfl (by simp [undef]) rfl ?_)
                  first
                    | (refine op_want rfl rfl ?_
                       refine op_v (v_move rfl) rfl ?_)
                    | (refine op_skip rfl rfl (by simp [undef]) rfl ?_)
                  first
                    | (refine op_want rfl rfl ?_
                       first | refine op_v (v_cmptA rfl rfl rfl) rfl ?_ | refine op_v (v_cmpfA rfl rfl rfl) rfl ?_ | refine op_v (v_cmp rfl rfl rfl) rfl ?_)
                    | (refine op_skip rfl rfl (by simp [undef]) rfl ?_)
                  first
                    | (refine op_want rfl rfl ?_
                       refine op_v (v_move rfl) rfl ?_)
                    | (refine op_skip rfl rfl (by simp [undef]) rfl ?_)
                  first
                    | (refine op_want rfl rfl ?_
                       refine op_v (v_move rfl) rfl ?_)
                    | (refine op_skip rfl rfl (by simp [undef]) rfl ?_)
                  first
                    | (refine op_want rfl rfl ?_
                       refine op_v (v_move rfl) rfl ?_)
                    | (refine op_skip rfl rfl (by simp [undef]) rfl ?_)
                  first
                    | (refine op_want rfl rfl ?_
                       refine op_v (v_len Try.underlying26 rfl) rfl ?_)
                    | (refine op_skip rfl rfl (by simp [undef]) rfl ?_)
                  first
                    | (refine op_want rfl rfl ?_
                       first | refine op_v (v_cmptA rfl rfl rfl) rfl ?_ | refine op_v (v_cmpfA rfl rfl rfl) rfl ?_ | refine op_v (v_cmp rfl rfl rfl) rfl ?_)
                    | (refine op_skip rfl rfl (by simp [undef]) rfl ?_)
                  first
                    | (refine op_want rfl rfl ?_
                       first | refine op_v (v_pickt rfl rfl) rfl ?_ | refine op_v (v_pickf rfl rfl) rfl ?_ | refine op_v (v_pickb rfl rfl rfl) rfl ?_)
                    | (refine op_skip rfl rfl (by simp [undef]) rfl ?_)
                  first
                    | (refine op_want rfl rfl ?_
                       first | refine op_v (v_pickt rfl rfl) rfl ?_ | refine op_v (v_pickf rfl rfl) rfl ?_ | refine op_v (v_pickb rfl rfl rfl) rfl ?_)
                    | (refine op_skip rfl rfl (by simp [undef]) rfl ?_)
                  first | refine op_v (v_pickt rfl rfl) rfl ?_ | refine op_v (v_pickf rfl rfl) rfl ?_ | refine op_v (v_pickb rfl rfl rfl) rfl ?_
                  refine ops_nil ?_
                  refine post_next ?_
                  refine code_cond_f rfl ?_
                  refine code_skip ?_
                  refine post_next ?_
                  refine code_seq ?_
                  refine code_seq ?_
                  refine code_region ?_
                  refine op_v (v_move rfl) rfl ?_
                  refine op_v (v_not rfl) rfl ?_
                  refine ops_nil ?_
                  refine post_next ?_
                  refine code_cond_t rfl ?_
                  refine code_seq ?_
                  refine code_region ?_
                  refine op_call pl18 rfl rfl ((awake15_does _)) Parts.none ?_
                  rintro v101 I101 _ hI101 ⟨rfl, rfl⟩
                  refine op_v (v_assign rfl) rfl ?_
                  refine ops_nil ?_
                  refine post_next ?_
                  refine code_ret ?_
                  refine post_ret_then ?_
                  refine post_ret (rs := [.tmp 6]) rfl (List.Perm.refl _) (.cons (.tmp rfl) .nil) (List.nil_sublist _) ?_
                  exact ⟨rfl, rfl⟩
              · have h71' : q37 = false := by simpa using h71
                subst h71'
                first | refine op_v (v_pickt rfl rfl) rfl ?_ | refine op_v (v_pickf rfl rfl) rfl ?_ | refine op_v (v_pickb rfl rfl rfl) rfl ?_
                refine op_v (v_move rfl) rfl ?_
                first
                  | (refine op_want rfl rfl ?_
                     refine op_v (v_move rfl) rfl ?_)
                  | (refine op_skip rfl rfl (by simp [undef]) rfl ?_)
                first
                  | (refine op_want rfl rfl ?_
                     refine op_v (v_not rfl) rfl ?_)
                  | (refine op_skip rfl rfl (by simp [undef]) rfl ?_)
                first | refine op_v (v_pickt rfl rfl) rfl ?_ | refine op_v (v_pickf rfl rfl) rfl ?_ | refine op_v (v_pickb rfl rfl rfl) rfl ?_
                refine op_v (v_move rfl) rfl ?_
                first
                  | (refine op_want rfl rfl ?_
                     refine op_v (v_move rfl) rfl ?_)
                  | (refine op_skip rfl rfl (by simp [undef]) rfl ?_)
                first
                  | (refine op_want rfl rfl ?_
                     refine op_v (v_move rfl) rfl ?_)
                  | (refine op_skip rfl rfl (by simp [undef]) rfl ?_)
                first
                  | (refine op_want rfl rfl ?_
                     refine op_v (v_move rfl) rfl ?_)
                  | (refine op_skip rfl rfl (by simp [undef]) rfl ?_)
                first
                  | (refine op_want rfl rfl ?_
                     refine op_v (v_len Try.underlying26 rfl) rfl ?_)
                  | (refine op_skip rfl rfl (by simp [undef]) rfl ?_)
                first
                  | (refine op_want rfl rfl ?_
                     refine op_v (v_move rfl) rfl ?_)
                  | (refine op_skip rfl rfl (by simp [undef]) rfl ?_)
                first
                  | (refine op_want rfl rfl ?_
                     refine op_v (v_len Try.underlying26 rfl) rfl ?_)
                  | (refine op_skip rfl rfl (by simp [undef]) rfl ?_)
                first
                  | (refine op_want rfl rfl ?_
                     refine op_v (v_cmpf rfl rfl rfl (by omega)) rfl ?_)
                  | (refine op_skip rfl rfl (by simp [undef]) rfl ?_)
                first
                  | (refine op_want rfl rfl ?_
                     first | refine op_v (v_pickt rfl rfl) rfl ?_ | refine op_v (v_pickf rfl rfl) rfl ?_ | refine op_v (v_pickb rfl rfl rfl) rfl ?_)
                  | (refine op_skip rfl rfl (by simp [undef]) rfl ?_)
                first | refine op_v (v_pickt rfl rfl) rfl ?_ | refine op_v (v_pickf rfl rfl) rfl ?_ | refine op_v (v_pickb rfl rfl rfl) rfl ?_
                refine op_v (v_move rfl) rfl ?_
                first
                  | (refine op_want rfl rfl ?_
                     refine op_v (v_move rfl) rfl ?_)
                  | (refine op_skip rfl rfl (by simp [undef]) rfl ?_)
                by_cases h88 : q = true
                · subst h88
                  obtain ⟨_, n, i, rfl, hP⟩ := hkq rfl
                  have hn : n < b.length := by obtain ⟨_, h, _⟩ := hP; exact h
                  first
                    | (refine op_want rfl rfl ?_
                       refine op_v (v_move rfl) rfl ?_)
                    | (refine op_skip rfl rfl (by simp [undef]) rfl ?_)
                  first
                    | (refine op_want rfl rfl ?_
                       refine op_v (v_move rfl) rfl ?_)
                    | (refine op_skip rfl rfl (by simp [undef]) rfl ?_)
                  first
                    | (refine op_want rfl rfl ?_
                       refine op_v (v_cmpf rfl rfl rfl (by omega)) rfl ?_)
                    | (refine op_skip rfl rfl (by simp [undef]) rfl ?_)
                  first
                    | (refine op_want rfl rfl ?_
                       refine op_v (v_move rfl) rfl ?_)
                    | (refine op_skip rfl rfl (by simp [undef]) rfl ?_)
                  first
                    | (refine op_want rfl rfl ?_
                       refine op_v (v_move rfl) rfl ?_)
                    | (refine op_skip rfl rfl (by simp [undef]) rfl ?_)
                  first
                    | (refine op_want rfl rfl ?_
                       refine op_v (v_move rfl) rfl ?_)
                    | (refine op_skip rfl rfl (by simp [undef]) rfl ?_)
                  first
                    | (refine op_want rfl rfl ?_
                       refine op_v (v_len Try.underlying26 rfl) rfl ?_)
                    | (refine op_skip rfl rfl (by simp [undef]) rfl ?_)
                  first
                    | (refine op_want rfl rfl ?_
                       refine op_v (v_cmpf rfl rfl rfl (by omega)) rfl ?_)
                    | (refine op_skip rfl rfl (by simp [undef]) rfl ?_)
                  first
                    | (refine op_want rfl rfl ?_
                       first | refine op_v (v_pickt rfl rfl) rfl ?_ | refine op_v (v_pickf rfl rfl) rfl ?_ | refine op_v (v_pickb rfl rfl rfl) rfl ?_)
                    | (refine op_skip rfl rfl (by simp [undef]) rfl ?_)
                  first
                    | (refine op_want rfl rfl ?_
                       first | refine op_v (v_pickt rfl rfl) rfl ?_ | refine op_v (v_pickf rfl rfl) rfl ?_ | refine op_v (v_pickb rfl rfl rfl) rfl ?_)
                    | (refine op_skip rfl rfl (by simp [undef]) rfl ?_)
                  first | refine op_v (v_pickt rfl rfl) rfl ?_ | refine op_v (v_pickf rfl rfl) rfl ?_ | refine op_v (v_pickb rfl rfl rfl) rfl ?_
                  refine ops_nil ?_
                  refine post_next ?_
                  refine code_cond_f rfl ?_
                  refine code_skip ?_
                  refine post_next ?_
                  refine code_seq ?_
                  refine code_seq ?_
                  refine code_region ?_
                  refine op_v (v_move rfl) rfl ?_
                  refine op_v (v_not rfl) rfl ?_
                  refine ops_nil ?_
                  refine post_next ?_
                  refine code_cond_f rfl ?_
                  refine code_skip ?_
                  refine post_next ?_
                  refine code_seq ?_
                  refine code_region ?_
                  refine op_v (v_assign rfl) rfl ?_
                  refine ops_nil ?_
                  refine post_next ?_
                  refine code_seq ?_
                  refine code_region ?_
                  refine op_v (v_move rfl) rfl ?_
                  refine op_v (v_move rfl) rfl ?_
                  refine op_v (v_move rfl) rfl ?_
                  refine op_v (v_sliceTo Try.underlying26 sz49 rfl rfl (by omega)) rfl ?_
                  refine OpsJ.view (View.nilRow 49 5) ?_
                  refine o_append Try.underlying26 bs49 rfl rfl rfl (fun v' => by repeat (first | exact Swap.here | apply Swap.there)) (Src.ofI ((hcellb.take (n * 5)).mono Imm.leA)) ((hrowb.take n (by omega)).length.trans (by rw [List.length_take, Nat.min_eq_left (by omega)])) (hrowb.take n (by omega)).one1 (by omega) (by omega) (fun a106 c106 => ?_)
                  refine op_v (v_assign rfl) rfl ?_
                  refine ops_nil ?_
                  refine post_next ?_
                  refine code_seq ?_
                  refine code_region ?_
                  refine op_v (v_move rfl) rfl ?_
                  refine op_v (v_move rfl) rfl ?_
                  refine op_v (v_move rfl) rfl ?_
                  refine op_v (v_addb (c := ((n + 1 : Nat) : Int)) rfl rfl (by omega) (by omega)) rfl ?_
                  refine op_v (v_sliceFrom (m := n + 1) Try.underlying26 sz49 rfl rfl (by omega) hcb) rfl ?_
                  refine o_append Try.underlying26 bs49 rfl rfl rfl (fun v' => by repeat (first | exact Swap.here | apply Swap.there)) (Src.ofI ((hcellb.cut (by rw [hbx]; exact Nat.mul_le_mul_right _ hcb)).mono Imm.leA)) ((hrowb.drop (n + 1) (by omega)).length.trans (by rw [List.length_drop])) (hrowb.drop (n + 1) (by omega)).one1 (by omega) (by omega) (fun a112 c112 => ?_)
                  refine op_v (v_assign rfl) rfl ?_
                  refine ops_nil ?_
                  refine post_next ?_
                  refine code_seq ?_
                  refine code_region ?_
                  refine OpsJ.freezeRow Del.here ?_
                  rintro I112 A112 C112 hI112 hq hc112 hl112 hcells112
                  cases hq
                  have hlenr : 0 + n + (b.length - (n + 1)) = (b.eraseIdx n).length := by rw [List.length_eraseIdx]; simp [hn]; omega
                  have hrest : RepC I112 (.slice a112 (0 + n + (b.length - (n + 1))) c112) (b.eraseIdx n) := ⟨a112, c112, _, by rw [hlenr], by rw [← hlenr]; exact hc112, by rw [← hlenr]; omega, hcells112, by rw [List.eraseIdx_eq_take_drop_succ]; exact ((hrowb.take n (by omega)).app (hrowb.drop (n + 1) (by omega))).mono Imm.leA⟩
                  have hserr : SmM (b.eraseIdx n) := fun x hx => hsb x (List.mem_of_mem_eraseIdx hx)
                  obtain ⟨_, hlb, _, hgb⟩ := wrE_ok hab
                  have her : wrE (b.eraseIdx n) b = 0 := wrE_zero (by rw [← hlenr]; omega) hlb (sides_erase hgb) hgb
                  refine op_v (v_move rfl) rfl ?_
                  refine op_v (v_move rfl) rfl ?_
                  refine op_call pl16 rfl rfl ((Subsumes_does hrest (hb.mono Imm.leA) hserr hsb)) Parts.none ?_
                  rintro v116 I116 _ hI116 ⟨⟨q116, rfl, hq116⟩, rfl⟩
                  have hq1 : q116 = true := hq116.2 ⟨her, Sub_rest (RiL_of hgb) n⟩
                  subst hq1
                  rw [her]
                  refine op_v (v_move rfl) rfl ?_
                  refine op_v (v_extract rfl rfl) rfl ?_
                  refine op_v (v_extract rfl rfl) rfl ?_
                  refine op_v (v_assign rfl) rfl ?_
                  refine op_v (v_assign rfl) rfl ?_
                  refine ops_nil ?_
                  refine post_next ?_
                  refine code_seq ?_
                  refine code_region ?_
                  refine op_call pl18 rfl rfl ((awake15_does _)) Parts.none ?_
                  rintro v119 I119 _ hI119 ⟨rfl, rfl⟩
                  refine op_v (v_move rfl) rfl ?_
                  first
                    | (refine op_want rfl rfl ?_
                       refine op_v (v_move rfl) rfl ?_)
                    | (refine op_skip rfl rfl (by simp [undef]) rfl ?_)
                  first | refine op_v (v_pickt rfl rfl) rfl ?_ | refine op_v (v_pickf rfl rfl) rfl ?_ | refine op_v (v_pickb rfl rfl rfl) rfl ?_
                  refine op_v (v_move rfl) rfl ?_
                  first
                    | (refine op_want rfl rfl ?_
                       refine op_v (v_move rfl) rfl ?_)
                    | (refine op_skip rfl rfl (by simp [undef]) rfl ?_)
                  first
                    | (refine op_want rfl rfl ?_
                       first | refine op_v (v_cmptA rfl rfl rfl) rfl ?_ | refine op_v (v_cmpfA rfl rfl rfl) rfl ?_ | refine op_v (v_cmp rfl rfl rfl) rfl ?_)
                    | (refine op_skip rfl rfl (by simp [undef]) rfl ?_)
                  first | refine op_v (v_pickt rfl rfl) rfl ?_ | refine op_v (v_pickf rfl rfl) rfl ?_ | refine op_v (v_pickb rfl rfl rfl) rfl ?_
                  refine op_v (v_assign rfl) rfl ?_
                  refine ops_nil ?_
                  refine post_next ?_
                  refine code_ret ?_
                  refine post_ret (rs := [.tmp 6]) rfl (List.Perm.refl _) (.cons (.tmp rfl) .nil) (List.nil_sublist _) ?_
                  exact ⟨rfl, rfl⟩
                · have h88' : q = false := by simpa using h88
                  subst h88'
                  first
                    | (refine op_want rfl rfl ?_
                       refine op_v (v_move rfl) rfl ?_)
                    | (refine op_skip rfl rfl (by simp [undef]) rfl ?_)
                  first
                    | (refine op_want rfl rfl ?_
                       refine op_v (v_move rfl) rfl ?_)
                    | (refine op_skip rfl rfl (by simp [undef]) rfl ?_)
                  first
                    | (refine op_want rfl rfl ?_
                       first | refine op_v (v_cmptA rfl rfl rfl) rfl ?_ | refine op_v (v_cmpfA rfl rfl rfl) rfl ?_ | refine op_v (v_cmp rfl rfl rfl) rfl ?_)
                    | (refine op_skip rfl rfl (by simp [undef]) rfl ?_)
                  first
                    | (refine op_want rfl rfl ?_
                       refine op_v (v_move rfl) rfl ?_)
                    | (refine op_skip rfl rfl (by simp [undef]) rfl ?_)
                  first
                    | (refine op_want rfl rfl ?_
                       refine op_v (v_move rfl) rfl ?_)
                    | (refine op_skip rfl rfl (by simp [undef]) rfl ?_)
                  first
                    | (refine op_want rfl rfl ?_
                       refine op_v (v_move rfl) rfl ?_)
                    | (refine op_skip rfl rfl (by simp [undef]) rfl ?_)
                  first
                    | (refine op_want rfl rfl ?_
                       refine op_v (v_len Try.underlying26 rfl) rfl ?_)
                    | (refine op_skip rfl rfl (by simp [undef]) rfl ?_)
                  first
                    | (refine op_want rfl rfl ?_
                       first | refine op_v (v_cmptA rfl rfl rfl) rfl ?_ | refine op_v (v_cmpfA rfl rfl rfl) rfl ?_ | refine op_v (v_cmp rfl rfl rfl) rfl ?_)
                    | (refine op_skip rfl rfl (by simp [undef]) rfl ?_)
                  first
                    | (refine op_want rfl rfl ?_
                       first | refine op_v (v_pickt rfl rfl) rfl ?_ | refine op_v (v_pickf rfl rfl) rfl ?_ | refine op_v (v_pickb rfl rfl rfl) rfl ?_)
                    | (refine op_skip rfl rfl (by simp [undef]) rfl ?_)
                  first
                    | (refine op_want rfl rfl ?_
                       first | refine op_v (v_pickt rfl rfl) rfl ?_ | refine op_v (v_pickf rfl rfl) rfl ?_ | refine op_v (v_pickb rfl rfl rfl) rfl ?_)
                    | (refine op_skip rfl rfl (by simp [undef]) rfl ?_)
                  first | refine op_v (v_pickt rfl rfl) rfl ?_ | refine op_v (v_pickf rfl rfl) rfl ?_ | refine op_v (v_pickb rfl rfl rfl) rfl ?_
                  refine ops_nil ?_
                  refine post_next ?_
                  refine code_cond_f rfl ?_
                  refine code_skip ?_
                  refine post_next ?_
                  refine code_seq ?_
                  refine code_seq ?_
                  refine code_region ?_
                  refine op_v (v_move rfl) rfl ?_
                  refine op_v (v_not rfl) rfl ?_
                  refine ops_nil ?_
                  refine post_next ?_
                  refine code_cond_t rfl ?_
                  refine code_seq ?_
                  refine code_region ?_
                  refine op_call pl18 rfl rfl ((awake15_does _)) Parts.none ?_
                  rintro v101 I101 _ hI101 ⟨rfl, rfl⟩
                  refine op_v (v_assign rfl) rfl ?_
                  refine ops_nil ?_
                  refine post_next ?_
                  refine code_ret ?_
                  refine post_ret_then ?_
                  refine post_ret (rs := [.tmp 6]) rfl (List.Perm.refl _) (.cons (.tmp rfl) .nil) (List.nil_sublist _) ?_
                  exact ⟨rfl, rfl⟩
            · have h69' : q31 = false := by simpa using h69
              subst h69'
              refine op_v (v_move rfl) rfl ?_
              first
                | (refine op_want rfl rfl ?_
                   refine op_v (v_move rfl) rfl ?_)
                | (refine op_skip rfl rfl (by simp [undef]) rfl ?_)
              first | refine op_v (v_pickt rfl rfl) rfl ?_ | refine op_v (v_pickf rfl rfl) rfl ?_ | refine op_v (v_pickb rfl rfl rfl) rfl ?_
              refine op_v (v_move rfl) rfl ?_
              first
                | (refine op_want rfl rfl ?_
                   refine op_v (v_move rfl) rfl ?_)
                | (refine op_skip rfl rfl (by simp [undef]) rfl ?_)
              first
                | (refine op_want rfl rfl ?_
                   refine op_v (v_not rfl) rfl ?_)
                | (refine op_skip rfl rfl (by simp [undef]) rfl ?_)
              first | refine op_v (v_pickt rfl rfl) rfl ?_ | refine op_v (v_pickf rfl rfl) rfl ?_ | refine op_v (v_pickb rfl rfl rfl) rfl ?_
              refine op_v (v_move rfl) rfl ?_
              first
                | (refine op_want rfl rfl ?_
                   refine op_v (v_move rfl) rfl ?_)
                | (refine op_skip rfl rfl (by simp [undef]) rfl ?_)
              first
                | (refine op_want rfl rfl ?_
                   refine op_v (v_move rfl) rfl ?_)
                | (refine op_skip rfl rfl (by simp [undef]) rfl ?_)
              first
                | (refine op_want rfl rfl ?_
                   refine op_v (v_move rfl) rfl ?_)
                | (refine op_skip rfl rfl (by simp [undef]) rfl ?_)
              first
                | (refine op_want rfl rfl ?_
                   refine op_v (v_len Try.underlying26 rfl) rfl ?_)
                | (refine op_skip rfl rfl (by simp [undef]) rfl ?_)
              first
                | (refine op_want rfl rfl ?_
                   refine op_v (v_move rfl) rfl ?_)
                | (refine op_skip rfl rfl (by simp [undef]) rfl ?_)
              first
                | (refine op_want rfl rfl ?_
                   refine op_v (v_len Try.underlying26 rfl) rfl ?_)
                | (refine op_skip rfl rfl (by simp [undef]) rfl ?_)
              first
                | (refine op_want rfl rfl ?_
                   first | refine op_v (v_cmptA rfl rfl rfl) rfl ?_ | refine op_v (v_cmpfA rfl rfl rfl) rfl ?_ | refine op_v (v_cmp rfl rfl rfl) rfl ?_)
                | (refine op_skip rfl rfl (by simp [undef]) rfl ?_)
              first
                | (refine op_want rfl rfl ?_
                   first | refine op_v (v_pickt rfl rfl) rfl ?_ | refine op_v (v_pickf rfl rfl) rfl ?_ | refine op_v (v_pickb rfl rfl rfl) rfl ?_)
                | (refine op_skip rfl rfl (by simp [undef]) rfl ?_)
              first | refine op_v (v_pickt rfl rfl) rfl ?_ | refine op_v (v_pickf rfl rfl) rfl ?_ | refine op_v (v_pickb rfl rfl rfl) rfl ?_
              refine op_v (v_move rfl) rfl ?_
              first
                | (refine op_want rfl rfl ?_
                   refine op_v (v_move rfl) rfl ?_)
                | (refine op_skip rfl rfl (by simp [undef]) rfl ?_)
              by_cases h88 : q = true
              · subst h88
                obtain ⟨_, n, i, rfl, hP⟩ := hkq rfl
                have hn : n < b.length := by obtain ⟨_, h, _⟩ := hP; exact h
                first
                  | (refine op_want rfl rfl ?_
                     refine op_v (v_move rfl) rfl ?_)
                  | (refine op_skip rfl rfl (by simp [undef]) rfl ?_)
                first
                  | (refine op_want rfl rfl ?_
                     refine op_v (v_move rfl) rfl ?_)
                  | (refine op_skip rfl rfl (by simp [undef]) rfl ?_)
                first
                  | (refine op_want rfl rfl ?_
                     refine op_v (v_cmpf rfl rfl rfl (by omega)) rfl ?_)
                  | (refine op_skip rfl rfl (by simp [undef]) rfl ?_)
                first
                  | (refine op_want rfl rfl ?_
                     refine op_v (v_move rfl) rfl ?_)
                  | (refine op_skip rfl rfl (by simp [undef]) rfl ?_)
                first
                  | (refine op_want rfl rfl ?_
                     refine op_v (v_move rfl) rfl ?_)
                  | (refine op_skip rfl rfl (by simp [undef]) rfl ?_)
                first
                  | (refine op_want rfl rfl ?_
                     refine op_v (v_move rfl) rfl ?_)
                  | (refine op_skip rfl rfl (by simp [undef]) rfl ?_)
                first
                  | (refine op_want rfl rfl ?_
                     refine op_v (v_len Try.underlying26 rfl) rfl ?_)
                  | (refine op_skip rfl rfl (by simp [undef]) rfl ?_)
                first
                  | (refine op_want rfl rfl ?_
                     refine op_v (v_cmpf rfl rfl rfl (by omega)) rfl ?_)
                  | (refine op_skip rfl rfl (by simp [undef]) rfl ?_)
                first
                  | (refine op_want rfl rfl ?_
                     first | refine op_v (v_pickt rfl rfl) rfl ?_ | refine op_v (v_pickf rfl rfl) rfl ?_ | refine op_v (v_pickb rfl rfl rfl) rfl ?_)
                  | (refine op_skip rfl rfl (by simp [undef]) rfl ?_)
                first
                  | (refine op_want rfl rfl ?_
                     first | refine op_v (v_pickt rfl rfl) rfl ?_ | refine op_v (v_pickf rfl rfl) rfl ?_ | refine op_v (v_pickb rfl rfl rfl) rfl ?_)
                  | (refine op_skip rfl rfl (by simp [undef]) rfl ?_)
                first | refine op_v (v_pickt rfl rfl) rfl ?_ | refine op_v (v_pickf rfl rfl) rfl ?_ | refine op_v (v_pickb rfl rfl rfl) rfl ?_
                refine ops_nil ?_
                refine post_next ?_
                refine code_cond_f rfl ?_
                refine code_skip ?_
                refine post_next ?_
                refine code_seq ?_
                refine code_seq ?_
                refine code_region ?_
                refine op_v (v_move rfl) rfl ?_
                refine op_v (v_not rfl) rfl ?_
                refine ops_nil ?_
                refine post_next ?_
                refine code_cond_f rfl ?_
                refine code_skip ?_
                refine post_next ?_
                refine code_seq ?_
                refine code_region ?_
                refine op_v (v_assign rfl) rfl ?_
                refine ops_nil ?_
                refine post_next ?_
                refine code_seq ?_
                refine code_region ?_
                refine op_v (v_move rfl) rfl ?_
                refine op_v (v_move rfl) rfl ?_
                refine op_v (v_move rfl) rfl ?_
                refine op_v (v_sliceTo Try.underlying26 sz49 rfl rfl (by omega)) rfl ?_
                refine OpsJ.view (View.nilRow 49 5) ?_
                refine o_append Try.underlying26 bs49 rfl rfl rfl (fun v' => by repeat (first | exact Swap.here | apply Swap.there)) (Src.ofI ((hcellb.take (n * 5)).mono Imm.leA)) ((hrowb.take n (by omega)).length.trans (by rw [List.length_take, Nat.min_eq_left (by omega)])) (hrowb.take n (by omega)).one1 (by omega) (by omega) (fun a106 c106 => ?_)
                refine op_v (v_assign rfl) rfl ?_
                refine ops_nil ?_
                refine post_next ?_
                refine code_seq ?_
                refine code_region ?_
                refine op_v (v_move rfl) rfl ?_
                refine op_v (v_move rfl) rfl ?_
                refine op_v (v_move rfl) rfl ?_
                refine op_v (v_addb (c := ((n + 1 : Nat) : Int)) rfl rfl (by omega) (by omega)) rfl ?_
                refine op_v (v_sliceFrom (m := n + 1) Try.underlying26 sz49 rfl rfl (by omega) hcb) rfl ?_
                refine o_append Try.underlying26 bs49 rfl rfl rfl (fun v' => by repeat (first | exact Swap.here | apply Swap.there)) (Src.ofI ((hcellb.cut (by rw [hbx]; exact Nat.mul_le_mul_right _ hcb)).mono Imm.leA)) ((hrowb.drop (n + 1) (by omega)).length.trans (by rw [List.length_drop])) (hrowb.drop (n + 1) (by omega)).one1 (by omega) (by omega) (fun a112 c112 => ?_)
                refine op_v (v_assign rfl) rfl ?_
                refine ops_nil ?_
                refine post_next ?_
                refine code_seq ?_
                refine code_region ?_
                refine OpsJ.freezeRow Del.here ?_
                rintro I112 A112 C112 hI112 hq hc112 hl112 hcells112
                cases hq
                have hlenr : 0 + n + (b.length - (n + 1)) = (b.eraseIdx n).length := by rw [List.length_eraseIdx]; simp [hn]; omega
                have hrest : RepC I112 (.slice a112 (0 + n + (b.length - (n + 1))) c112) (b.eraseIdx n) := ⟨a112, c112, _, by rw [hlenr], by rw [← hlenr]; exact hc112, by rw [← hlenr]; omega, hcells112, by rw [List.eraseIdx_eq_take_drop_succ]; exact ((hrowb.take n (by omega)).app (hrowb.drop (n + 1) (by omega))).mono Imm.leA⟩
                have hserr : SmM (b.eraseIdx n) := fun x hx => hsb x (List.mem_of_mem_eraseIdx hx)
                obtain ⟨_, hlb, _, hgb⟩ := wrE_ok hab
                have her : wrE (b.eraseIdx n) b = 0 := wrE_zero (by rw [← hlenr]; omega) hlb (sides_erase hgb) hgb
                refine op_v (v_move rfl) rfl ?_
                refine op_v (v_move rfl) rfl ?_
                refine op_call pl16 rfl rfl ((Subsumes_does hrest (hb.mono Imm.leA) hserr hsb)) Parts.none ?_
                rintro v116 I116 _ hI116 ⟨⟨q116, rfl, hq116⟩, rfl⟩
                have hq1 : q116 = true := hq116.2 ⟨her, Sub_rest (RiL_of hgb) n⟩
                subst hq1
                rw [her]
                refine op_v (v_move rfl) rfl ?_
                refine op_v (v_extract rfl rfl) rfl ?_
                refine op_v (v_extract rfl rfl) rfl ?_
                refine op_v (v_assign rfl) rfl ?_
                refine op_v (v_assign rfl) rfl ?_
                refine ops_nil ?_
                refine post_next ?_
                refine code_seq ?_
                refine code_region ?_
                refine op_call pl18 rfl rfl ((awake15_does _)) Parts.none ?_
                rintro v119 I119 _ hI119 ⟨rfl, rfl⟩
                refine op_v (v_move rfl) rfl ?_
                first
                  | (refine op_want rfl rfl ?_
                     refine op_v (v_move rfl) rfl ?_)
                  | (refine op_skip rfl rfl (by simp [undef]) rfl ?_)
                first | refine op_v (v_pickt rfl rfl) rfl ?_ | refine op_v (v_pickf rfl rfl) rfl ?_ | refine op_v (v_pickb rfl rfl rfl) rfl ?_
                refine op_v (v_move rfl) rfl ?_
                first
                  | (refine op_want rfl rfl ?_
                     refine op_v (v_move rfl) rfl ?_)
                  | (refine op_skip rfl rfl (by simp [undef]) rfl ?_)
                first
                  | (refine op_want rfl rfl ?_
                     first | refine op_v (v_cmptA rfl rfl rfl) rfl ?_ | refine op_v (v_cmpfA rfl rfl rfl) rfl ?_ | refine op_v (v_cmp rfl rfl rfl) rfl ?_)
                  | (refine op_skip rfl rfl (by simp [undef]) rfl ?_)
                first | refine op_v (v_pickt rfl rfl) rfl ?_ | refine op_v (v_pickf rfl rfl) rfl ?_ | refine op_v (v_pickb rfl rfl rfl) rfl ?_
                refine op_v (v_assign rfl) rfl ?_
                refine ops_nil ?_
                refine post_next ?_
                refine code_ret ?_
                refine post_ret (rs := [.tmp 6]) rfl (List.Perm.refl _) (.cons (.tmp rfl) .nil) (List.nil_sublist _) ?_
                exact ⟨rfl, rfl⟩
              · have h88' : q = false := by simpa using h88
                subst h88'
                first
                  | (refine op_want rfl rfl ?_
                     refine op_v (v_move rfl) rfl ?_)
                  | (refine op_skip rfl rfl (by simp [undef]) rfl ?_)
                first
                  | (refine op_want rfl rfl ?_
                     refine op_v (v_move rfl) rfl ?_)
                  | (refine op_skip rfl rfl (by simp [undef]) rfl ?_)
                first
                  | (refine op_want rfl rfl ?_
                     first | refine op_v (v_cmptA rfl rfl rfl) rfl ?_ | refine op_v (v_cmpfA rfl rfl rfl) rfl ?_ | refine op_v (v_cmp rfl rfl rfl) rfl ?_)
                  | (refine op_skip rfl rfl (by simp [undef]) rfl ?_)
                first
                  | (refine op_want rfl rfl ?_
                     refine op_v (v_move rfl) rfl ?_)
                  | (refine op_skip rfl rfl (by simp [undef]) rfl ?_)
                first
                  | (refine op_want rfl rfl ?_
                     refine op_v (v_move rfl) rfl ?_)
                  | (refine op_skip rfl rfl (by simp [undef]) rfl ?_)
                first
                  | (refine op_want rfl rfl ?_
                     refine op_v (v_move rfl) rfl ?_)
                  | (refine op_skip rfl rfl (by simp [undef]) rfl ?_)
                first
                  | (refine op_want rfl rfl ?_
                     refine op_v (v_len Try.underlying26 rfl) rfl ?_)
                  | (refine op_skip rfl rfl (by simp [undef]) rfl ?_)
                first
                  | (refine op_want rfl rfl ?_
                     first | refine op_v (v_cmptA rfl rfl rfl) rfl ?_ | refine op_v (v_cmpfA rfl rfl rfl) rfl ?_ | refine op_v (v_cmp rfl rfl rfl) rfl ?_)
                  | (refine op_skip rfl rfl (by simp [undef]) rfl ?_)
                first
                  | (refine op_want rfl rfl ?_
                     first | refine op_v (v_pickt rfl rfl) rfl ?_ | refine op_v (v_pickf rfl rfl) rfl ?_ | refine op_v (v_pickb rfl rfl rfl) rfl ?_)
                  | (refine op_skip rfl rfl (by simp [undef]) rfl ?_)
                first
                  | (refine op_want rfl rfl ?_
                     first | refine op_v (v_pickt rfl rfl) rfl ?_ | refine op_v (v_pickf rfl rfl) rfl ?_ | refine op_v (v_pickb rfl rfl rfl) rfl ?_)
                  | (refine op_skip rfl rfl (by simp [undef]) rfl ?_)
                first | refine op_v (v_pickt rfl rfl) rfl ?_ | refine op_v (v_pickf rfl rfl) rfl ?_ | refine op_v (v_pickb rfl rfl rfl) rfl ?_
                refine ops_nil ?_
                refine post_next ?_
                refine code_cond_f rfl ?_
                refine code_skip ?_
                refine post_next ?_
                refine code_seq ?_
                refine code_seq ?_
                refine code_region ?_
                refine op_v (v_move rfl) rfl ?_
                refine op_v (v_not rfl) rfl ?_
                refine ops_nil ?_
                refine post_next ?_
                refine code_cond_t rfl ?_
                refine code_seq ?_
                refine code_region ?_
                refine op_call pl18 rfl rfl ((awake15_does _)) Parts.none ?_
                rintro v101 I101 _ hI101 ⟨rfl, rfl⟩
                refine op_v (v_assign rfl) rfl ?_
                refine ops_nil ?_
                refine post_next ?_
                refine code_ret ?_
                refine post_ret_then ?_
                refine post_ret (rs := [.tmp 6]) rfl (List.Perm.refl _) (.cons (.tmp rfl) .nil) (List.nil_sublist _) ?_
                exact ⟨rfl, rfl⟩
    · have h26' : b25 = false := by simpa using h26
      subst h26'
      first
        | (refine op_want rfl rfl ?_
           refine op_v (v_not rfl) rfl ?_)
        | (refine op_skip rfl rfl (by simp [undef]) rfl ?_)
      first | refine op_v (v_pickt rfl rfl) rfl ?_ | refine op_v (v_pickf rfl rfl) rfl ?_ | refine op_v (v_pickb rfl rfl rfl) rfl ?_
      refine ops_nil ?_
      refine post_next ?_
      refine code_cond_t rfl ?_
      refine code_seq ?_
      refine code_region ?_
      refine op_v (v_assign rfl) rfl ?_
      refine ops_nil ?_
      refine post_next ?_
      refine code_ret ?_
      refine post_ret_then ?_
      refine post_ret (rs := [.tmp 6]) rfl (List.Perm.refl _) (.cons (.tmp rfl) .nil) (List.nil_sublist _) ?_
      exact ⟨rfl, rfl⟩
  · have h22' : b21 = false := by simpa using h22
    subst h22'
    refine op_v (v_not rfl) rfl ?_
    refine op_v (v_move rfl) rfl ?_
    first
      | (refine op_want rfl rfl ?_
         refine op_v (v_move rfl) rfl ?_)
      | (refine op_skip rfl rfl (by simp [undef]) rfl ?_)
    first
      | (refine op_want rfl rfl ?_
         refine op_call pl23 rfl rfl ((RFew15_does (hc.mono Imm.leA))) Parts.none ?_
         rintro v25 I25 _ hI25 ⟨⟨b25, rfl, hb25⟩, rfl⟩)
      | (refine op_skip rfl rfl (by simp [undef]) rfl ?_)
    first
      | (refine op_want rfl rfl ?_
         refine op_v (v_not rfl) rfl ?_)
      | (refine op_skip rfl rfl (by simp [undef]) rfl ?_)
    first | refine op_v (v_pickt rfl rfl) rfl ?_ | refine op_v (v_pickf rfl rfl) rfl ?_ | refine op_v (v_pickb rfl rfl rfl) rfl ?_
    refine ops_nil ?_
    refine post_next ?_
    refine code_cond_t rfl ?_
    refine code_seq ?_
    refine code_region ?_
    refine op_v (v_assign rfl) rfl ?_
    refine ops_nil ?_
    refine post_next ?_
    refine code_ret ?_
    refine post_ret_then ?_
    refine post_ret (rs := [.tmp 6]) rfl (List.Perm.refl _) (.cons (.tmp rfl) .nil) (List.nil_sublist _) ?_
    exact ⟨rfl, rfl⟩
end Go.Proofs.Ytdbadicpbmndbaa
