/- Walk: what is selected: the statement. -/
import Derived.Test.YtdbadicpbmndbaaZ5
set_option linter.unusedVariables false
set_option linter.unusedSimpArgs false
set_option linter.unnecessarySimpa false
/- short -/
namespace Go.Proofs.Ytdbadicpbmndbaa
open Go Lg

theorem selG_cases (gs : List Sy) (c : List Li) (how : Int) : selG gs c how = [] ∨ ∃ (j : Nat) (hj : j < c.length), selG gs c how = [(j : Int)] ∧ c[j].neg = true := by
  unfold selG
  cases h : pickG gs c how c.length with
  | none => exact .inl rfl
  | some j =>
    obtain ⟨h1, h2⟩ := pickG_neg gs c how _ j h
    rw [getD_at h1] at h2
    exact .inr ⟨j, h1, rfl, h2⟩
theorem selG_some {gs : List Sy} {c : List Li} {how : Int} : 0 < (selG gs c how).length ↔ c.any (·.neg) = true ∧ how ≠ 0 := by
  by_cases h0 : how = 0
  · subst h0; unfold selG; rw [pickG_zero]; simp [selO]
  · have := pickG_none (gs := gs) (c := c) h0 c.length (Nat.le_refl _)
    rw [List.take_length] at this
    unfold selG
    cases h : pickG gs c how c.length with
    | none => rw [this.1 h]; simp [selO]
    | some j =>
      have hn : ¬ c.any (·.neg) = false := fun q => by rw [this.2 q] at h; cases h
      have ht : c.any (·.neg) = true := by cases q : c.any (·.neg); exact absurd q hn; rfl
      rw [ht]; simp [selO, h0]
mutual
theorem sb_nilT : ∀ t : T, sbT [] t = t
  | .mk h us => by
    show rbT (ofT []) (.mk h us) = _
    simp only [rbT]
    split
    · rfl
    · rw [sb_nilL us]
theorem sb_nilL : ∀ us : List T, rbL (ofT []) us = us
  | [] => rfl
  | t :: r => by
    have h1 := sb_nilT t
    unfold sbT at h1
    simp only [rbL, h1, sb_nilL r]
end
theorem outL_nil {gs : List Sy} {x : Li} (h : OkL gs x) : OutL [] x 0 x := ⟨0, x.l, outE_nil h.1.chk (sb_nilT _), .inr ⟨rfl, 0, x.r, outE_nil h.2.chk (sb_nilT _), .inr ⟨rfl, rfl, rfl⟩⟩⟩
theorem outC_nil {gs : List Sy} {c : List Li} (h : chkC gs c = 0) : OutC [] c 0 c := .inr ⟨(chkC_ok h).2.1, .inr ⟨rfl, rfl, fun i hi _ => outL_nil (litG_ok ((chkC_ok h).2.2 _ (List.getElem_mem hi)))⟩⟩
theorem may_nil {gs : List Sy} {c : List Li} {how i : Int} {b : Bool} {e : Int} (hs : selE gs c how = 0) (h : MayH gs c how i [] b e) : ((i < 0 ∨ (c.length : Int) ≤ i) ∧ e = 1) ∨ (e = 0 ∧ b = mayB gs c c how i) := by
  have hc : chkC gs c = 0 := by
    unfold selE at hs
    split at hs
    · rename_i q; exact absurd hs q
    · rename_i q; exact Classical.not_not.1 q
  rcases h with ⟨h1, _⟩ | ⟨_, ⟨h2, rfl, _⟩ | ⟨h2, e1, d, ho, h3⟩⟩
  · exact absurd hs h1
  · exact .inl ⟨h2, rfl⟩
  · obtain ⟨rfl, rfl⟩ := ho.eq (outC_nil hc)
    rcases h3 with ⟨h3, _⟩ | ⟨_, ⟨h4, _⟩ | ⟨_, rfl, rfl⟩⟩
    · exact absurd rfl h3
    · exact absurd hc h4
    · exact .inr ⟨rfl, rfl⟩
theorem MaximSelects_does {I : Imm} {vg va : Value} {gs : List Sy} {c : List Li} {how i : Int} (hg : RepG I vg gs) (hv : RepC I va c) (hhow : InR how) (hi : InR i) :
    Does Try.prog 11 [vg, va, .int .i64 how, .int .i64 i] I [] (fun v I' δ' => v = .bool true ∧ δ' = []) := by
  obtain ⟨ad, c0, xs, rfl, hc, hb, hcells, hrow⟩ := id hv
  refine Does.intro Try.func11 rfl Try.ntmps11 rfl fun w0 => ?_
  refine code_seq ?_
  refine code_region ?_
  refine op_v (v_assign rfl) rfl ?_
  refine ops_nil ?_
  refine post_next ?_
  refine code_seq ?_
  refine code_seq ?_
  refine code_region ?_
  refine op_v (v_move rfl) rfl ?_
  refine op_v (v_move rfl) rfl ?_
  refine op_call pl45 rfl rfl ((few11_does hg hv)) Parts.none ?_
  rintro v18 I18 _ hI18 ⟨⟨b18, rfl, hb18⟩, rfl⟩
  by_cases h19 : b18 = true
  · subst h19
    obtain ⟨hf, _⟩ := hb18 rfl
    have hsz := hf.sides
    have hsm := hf.sm
    refine op_v (v_not rfl) rfl ?_
    refine ops_nil ?_
    refine post_next ?_
    refine code_cond_f rfl ?_
    refine code_skip ?_
    refine post_next ?_
    refine code_seq ?_
    refine code_region ?_
    refine op_v (v_move rfl) rfl ?_
    refine op_v (v_move rfl) rfl ?_
    refine op_v (v_move rfl) rfl ?_
    refine op_call pl50 rfl rfl ((Select_does (how := how) (hg.mono Imm.leA) (hv.mono Imm.leA) hsm)) Parts.none ?_
    rintro v24 I24 _ hI24 ⟨⟨u24, rfl, hu24⟩, rfl⟩
    obtain ⟨ua, uc, rfl⟩ := hu24.shape
    refine op_v (v_move rfl) rfl ?_
    refine op_v (v_extract rfl rfl) rfl ?_
    refine op_v (v_extract rfl rfl) rfl ?_
    refine op_v (v_assign rfl) rfl ?_
    refine op_v (v_assign rfl) rfl ?_
    refine ops_nil ?_
    refine post_next ?_
    refine code_seq ?_
    refine code_seq ?_
    refine code_region ?_
    refine op_v (v_move rfl) rfl ?_
    by_cases h28 : selE gs c how ≠ 0
    · have hr : selR gs c how = [] := if_neg h28
      rw [hr]
      first | refine op_v (v_cmptA rfl rfl rfl) rfl ?_ | refine op_v (v_cmpfA rfl rfl rfl) rfl ?_ | refine op_v (v_cmp rfl rfl rfl) rfl ?_
      refine ops_nil ?_
      refine post_next ?_
      refine code_cond_t rfl ?_
      refine code_seq ?_
      refine code_region ?_
      refine op_call pl47 rfl rfl ((awake11_does _)) Parts.none ?_
      rintro v29 I29 _ hI29 ⟨rfl, rfl⟩
      refine op_v (v_move rfl) rfl ?_
      first
        | (refine op_want rfl rfl ?_
           refine op_v (v_move rfl) rfl ?_)
        | (refine op_skip rfl rfl (by simp [undef]) rfl ?_)
      first
        | (refine op_want rfl rfl ?_
           refine op_v (v_len Try.underlying62 rfl) rfl ?_)
        | (refine op_skip rfl rfl (by simp [undef]) rfl ?_)
      first
        | (refine op_want rfl rfl ?_
           first | refine op_v (v_cmptA rfl rfl rfl) rfl ?_ | refine op_v (v_cmpfA rfl rfl rfl) rfl ?_ | refine op_v (v_cmp rfl rfl rfl) rfl ?_)
        | (refine op_skip rfl rfl (by simp [undef]) rfl ?_)
      first | refine op_v (v_pickt rfl rfl) rfl ?_ | refine op_v (v_pickf rfl rfl) rfl ?_ | refine op_v (v_pickb rfl rfl rfl) rfl ?_
      refine op_v (v_assign rfl) rfl ?_
      refine ops_nil ?_
      refine post_next ?_
      refine code_ret ?_
      refine post_ret_then ?_
      refine post_ret (rs := [.tmp 8]) rfl (List.Perm.refl _) (.cons (.tmp rfl) .nil) (List.nil_sublist _) ?_
      exact ⟨rfl, rfl⟩
    · have he : selE gs c how = 0 := Classical.not_not.1 h28
      have hr : selR gs c how = selG gs c how := if_pos he
      rw [hr]
      rw [hr] at hu24
      have hcase := selG_cases gs c how
      have hsome := selG_some (gs := gs) (c := c) (how := how)
      have hlen1 : (selG gs c how).length ≤ 1 := by rcases hcase with e | ⟨j, hj, e, _⟩ <;> rw [e] <;> simp
      first | refine op_v (v_cmptA rfl rfl rfl) rfl ?_ | refine op_v (v_cmpfA rfl rfl rfl) rfl ?_ | refine op_v (v_cmp rfl rfl rfl) rfl ?_
      refine ops_nil ?_
      refine post_next ?_
      refine code_cond_f rfl ?_
      refine code_skip ?_
      refine post_next ?_
      refine code_seq ?_
      refine code_region ?_
      refine op_v (v_assign rfl) rfl ?_
      refine ops_nil ?_
      refine post_next ?_
      refine code_seq ?_
      refine code_seq ?_
      refine code_region ?_
      refine op_v (v_assign rfl) rfl ?_
      refine ops_nil ?_
      refine post_next ?_
      refine code_block ?_
      refine code_loop (fun m σ' I' δ' => ∃ k : Nat, m = c.length - k ∧ k ≤ c.length ∧ σ' = [(0, vg), (1, .slice ad c.length c0), (2, .int .i64 how), (3, .int .i64 i), (9, .slice ua (selG gs c how).length uc), (11, .bool ((c.take k).any (·.neg))), (12, .int .i64 k)] ∧ I24.le I' ∧ δ' = []) c.length [(0, vg), (1, .slice ad c.length c0), (2, .int .i64 how), (3, .int .i64 i), (9, .slice ua (selG gs c how).length uc), (11, .bool false), (12, .int .i64 (0 : Nat))] ⟨0, rfl, Nat.zero_le _, rfl, Imm.le_refl _, rfl⟩ ⟨rfl, rfl, rfl, rfl, rfl, rfl, rfl, trivial⟩ ?_
      rintro m _ I0 _ ⟨k, rfl, hk, rfl, hI0, rfl⟩
      refine code_seq ?_
      refine code_seq ?_
      refine code_region ?_
      refine op_v (v_move rfl) rfl ?_
      refine op_v (v_move rfl) rfl ?_
      refine op_v (v_len Try.underlying26 rfl) rfl ?_
      first | refine op_v (v_cmptA rfl rfl rfl) rfl ?_ | refine op_v (v_cmpfA rfl rfl rfl) rfl ?_ | refine op_v (v_cmp rfl rfl rfl) rfl ?_
      refine ops_nil ?_
      refine post_next ?_
      refine code_cond rfl (fun hc2 => ?_) (fun hc2 => ?_)
      · have hlt : k < c.length := by simpa using hc2
        obtain ⟨vs, ⟨la, lc, ra, rc, rfl, hl, hr'⟩, hat⟩ := hrow.cellsAt hcells hlt
        replace hat := hat.mono (show I.le I0 from Imm.leA)
        have hs1 := hat.isSome
        have htk := List.take_succ_eq_append_getElem hlt
        refine code_skip ?_
        refine post_next ?_
        refine code_seq ?_
        refine code_block ?_
        refine code_region ?_
        refine op_v (v_move rfl) rfl ?_
        by_cases h42 : (c.take k).any (·.neg) = true
        · rw [h42]
          refine op_v (v_move rfl) rfl ?_
          first
            | (refine op_want rfl rfl ?_
               refine op_v (v_move rfl) rfl ?_)
            | (refine op_skip rfl rfl (by simp [undef]) rfl ?_)
          first
            | (refine op_want rfl rfl ?_
               refine op_v (v_move rfl) rfl ?_)
            | (refine op_skip rfl rfl (by simp [undef]) rfl ?_)
          first
            | (refine op_want rfl rfl ?_
               first | refine op_v (v_indexA Try.underlying26 sz49 rfl rfl) rfl ?_ | refine op_v (v_indexIA Try.underlying26 sz49 rfl rfl) rfl ?_)
            | (refine op_skip rfl rfl (by simp [undef]) rfl ?_)
          first
            | (refine op_want rfl rfl ?_
               first | refine op_v (v_fieldB 0 Try.underlying49 rfl rfl fz4 rfl) rfl ?_ | refine op_v (v_fieldI 0 Try.underlying49 rfl rfl fz4 rfl (by assumption)) rfl ?_ | refine op_v (v_field Try.underlying49 rfl fz4 rfl rfl) rfl ?_)
            | (refine op_skip rfl rfl (by simp [undef]) rfl ?_)
          first
            | (refine op_want rfl rfl ?_
               refine op_v (v_loadI (k := 0) (v := .bool c[k].neg) ty4 hat rfl rfl rfl) rfl ?_)
            | (refine op_skip rfl rfl (by simp [undef]) rfl ?_)
          first | refine op_v (v_pickt rfl rfl) rfl ?_ | refine op_v (v_pickf rfl rfl) rfl ?_ | refine op_v (v_pickb rfl rfl rfl) rfl ?_
          refine op_v (v_assign rfl) rfl ?_
          refine ops_nil ?_
          refine post_out ?_
          refine post_next ?_
          refine code_region ?_
          refine op_v (v_move rfl) rfl ?_
          first | refine op_v (v_addb rfl rfl rfl (by omega)) rfl ?_ | refine op_v (v_add rfl rfl) rfl ?_
          refine op_v (v_assign rfl) rfl ?_
          refine ops_nil ?_
          refine post_again (c.length - (k + 1)) [(0, vg), (1, .slice ad c.length c0), (2, .int .i64 how), (3, .int .i64 i), (9, .slice ua (selG gs c how).length uc), (11, .bool ((c.take (k + 1)).any (·.neg))), (12, .int .i64 (k + 1 : Nat))] (by omega) ⟨k + 1, rfl, hlt, rfl, Imm.leA, rfl⟩ ⟨rfl, rfl, rfl, rfl, rfl, by rw [show (c.take (k + 1)).any (·.neg) = true from by rw [htk, List.any_append, h42]; rfl]; rfl, rfl, trivial⟩
        · have h42' : (c.take k).any (·.neg) = false := by simpa using h42
          rw [h42']
          refine op_v (v_move rfl) rfl ?_
          first
            | (refine op_want rfl rfl ?_
               refine op_v (v_move rfl) rfl ?_)
            | (refine op_skip rfl rfl (by simp [undef]) rfl ?_)
          first
            | (refine op_want rfl rfl ?_
               refine op_v (v_move rfl) rfl ?_)
            | (refine op_skip rfl rfl (by simp [undef]) rfl ?_)
          first
            | (refine op_want rfl rfl ?_
               first | refine op_v (v_indexA Try.underlying26 sz49 rfl rfl) rfl ?_ | refine op_v (v_indexIA Try.underlying26 sz49 rfl rfl) rfl ?_)
            | (refine op_skip rfl rfl (by simp [undef]) rfl ?_)
          first
            | (refine op_want rfl rfl ?_
               first | refine op_v (v_fieldB 0 Try.underlying49 rfl rfl fz4 rfl) rfl ?_ | refine op_v (v_fieldI 0 Try.underlying49 rfl rfl fz4 rfl (by assumption)) rfl ?_ | refine op_v (v_field Try.underlying49 rfl fz4 rfl rfl) rfl ?_)
            | (refine op_skip rfl rfl (by simp [undef]) rfl ?_)
          first
            | (refine op_want rfl rfl ?_
               refine op_v (v_loadI (k := 0) (v := .bool c[k].neg) ty4 hat rfl rfl rfl) rfl ?_)
            | (refine op_skip rfl rfl (by simp [undef]) rfl ?_)
          first | refine op_v (v_pickt rfl rfl) rfl ?_ | refine op_v (v_pickf rfl rfl) rfl ?_ | refine op_v (v_pickb rfl rfl rfl) rfl ?_
          refine op_v (v_assign rfl) rfl ?_
          refine ops_nil ?_
          refine post_out ?_
          refine post_next ?_
          refine code_region ?_
          refine op_v (v_move rfl) rfl ?_
          first | refine op_v (v_addb rfl rfl rfl (by omega)) rfl ?_ | refine op_v (v_add rfl rfl) rfl ?_
          refine op_v (v_assign rfl) rfl ?_
          refine ops_nil ?_
          refine post_again (c.length - (k + 1)) [(0, vg), (1, .slice ad c.length c0), (2, .int .i64 how), (3, .int .i64 i), (9, .slice ua (selG gs c how).length uc), (11, .bool ((c.take (k + 1)).any (·.neg))), (12, .int .i64 (k + 1 : Nat))] (by omega) ⟨k + 1, rfl, hlt, rfl, Imm.leA, rfl⟩ ⟨rfl, rfl, rfl, rfl, rfl, by rw [show (c.take (k + 1)).any (·.neg) = c[k].neg from by rw [htk, List.any_append, h42']; simp]; rfl, rfl, trivial⟩
      · have hge : k = c.length := by simp at hc2; omega
        subst hge
        rw [List.take_length]
        refine code_exit ?_
        refine post_exit_then ?_
        refine post_exit_then ?_
        refine post_exit ?_
        refine post_next ?_
        refine code_seq_meet (fun σ' I' δ' => σ' = [(0, vg), (1, .slice ad c.length c0), (2, .int .i64 how), (3, .int .i64 i), (9, .slice ua (selG gs c how).length uc)] ∧ I0.le I' ∧ δ' = []) ?_ ?_
        · refine code_seq ?_
          refine code_region ?_
          by_cases hA : c.any (·.neg) = true
          · rw [hA]
            refine op_v (v_move rfl) rfl ?_
            by_cases h50 : how ≠ 0
            · have hpos := hsome.2 ⟨hA, h50⟩
              refine op_v (v_len Try.underlying62 rfl) rfl ?_
              refine op_v (v_cmpt rfl rfl rfl (by omega)) rfl ?_
              refine op_v (v_move rfl) rfl ?_
              refine op_v (v_move rfl) rfl ?_
              first
                | (refine op_want rfl rfl ?_
                   refine op_v (v_move rfl) rfl ?_)
                | (refine op_skip rfl rfl (by simp [undef]) rfl ?_)
              first
                | (refine op_want rfl rfl ?_
                   first | refine op_v (v_cmptA rfl rfl rfl) rfl ?_ | refine op_v (v_cmpfA rfl rfl rfl) rfl ?_ | refine op_v (v_cmp rfl rfl rfl) rfl ?_)
                | (refine op_skip rfl rfl (by simp [undef]) rfl ?_)
              first | refine op_v (v_pickt rfl rfl) rfl ?_ | refine op_v (v_pickf rfl rfl) rfl ?_ | refine op_v (v_pickb rfl rfl rfl) rfl ?_
              refine op_v (v_eqb Try.underlying4 rfl rfl rfl) rfl ?_
              refine op_v (v_move rfl) rfl ?_
              first
                | (refine op_want rfl rfl ?_
                   refine op_v (v_move rfl) rfl ?_)
                | (refine op_skip rfl rfl (by simp [undef]) rfl ?_)
              first
                | (refine op_want rfl rfl ?_
                   refine op_v (v_len Try.underlying62 rfl) rfl ?_)
                | (refine op_skip rfl rfl (by simp [undef]) rfl ?_)
              first
                | (refine op_want rfl rfl ?_
                   refine op_v (v_cmpf rfl rfl rfl (by omega)) rfl ?_)
                | (refine op_skip rfl rfl (by simp [undef]) rfl ?_)
              first | refine op_v (v_pickt rfl rfl) rfl ?_ | refine op_v (v_pickf rfl rfl) rfl ?_ | refine op_v (v_pickb rfl rfl rfl) rfl ?_
              refine ops_nil ?_
              refine post_next ?_
              refine code_cond_f rfl ?_
              refine code_skip ?_
              exact post_meet _ ⟨rfl, Imm.leA, rfl⟩ ⟨rfl, rfl, rfl, rfl, rfl, trivial⟩
            · have hzero : (selG gs c how).length = 0 := by
                rcases Nat.eq_zero_or_pos (selG gs c how).length with q | q
                · exact q
                · exact absurd (hsome.1 q).2 h50
              refine op_v (v_len Try.underlying62 rfl) rfl ?_
              refine op_v (v_cmpf rfl rfl rfl (by omega)) rfl ?_
              refine op_v (v_move rfl) rfl ?_
              refine op_v (v_move rfl) rfl ?_
              first
                | (refine op_want rfl rfl ?_
                   refine op_v (v_move rfl) rfl ?_)
                | (refine op_skip rfl rfl (by simp [undef]) rfl ?_)
              first
                | (refine op_want rfl rfl ?_
                   first | refine op_v (v_cmptA rfl rfl rfl) rfl ?_ | refine op_v (v_cmpfA rfl rfl rfl) rfl ?_ | refine op_v (v_cmp rfl rfl rfl) rfl ?_)
                | (refine op_skip rfl rfl (by simp [undef]) rfl ?_)
              first | refine op_v (v_pickt rfl rfl) rfl ?_ | refine op_v (v_pickf rfl rfl) rfl ?_ | refine op_v (v_pickb rfl rfl rfl) rfl ?_
              refine op_v (v_eqb Try.underlying4 rfl rfl rfl) rfl ?_
              refine op_v (v_move rfl) rfl ?_
              first
                | (refine op_want rfl rfl ?_
                   refine op_v (v_move rfl) rfl ?_)
                | (refine op_skip rfl rfl (by simp [undef]) rfl ?_)
              first
                | (refine op_want rfl rfl ?_
                   refine op_v (v_len Try.underlying62 rfl) rfl ?_)
                | (refine op_skip rfl rfl (by simp [undef]) rfl ?_)
              first
                | (refine op_want rfl rfl ?_
                   refine op_v (v_cmpf rfl rfl rfl (by omega)) rfl ?_)
                | (refine op_skip rfl rfl (by simp [undef]) rfl ?_)
              first | refine op_v (v_pickt rfl rfl) rfl ?_ | refine op_v (v_pickf rfl rfl) rfl ?_ | refine op_v (v_pickb rfl rfl rfl) rfl ?_
              refine ops_nil ?_
              refine post_next ?_
              refine code_cond_f rfl ?_
              refine code_skip ?_
              exact post_meet _ ⟨rfl, Imm.leA, rfl⟩ ⟨rfl, rfl, rfl, rfl, rfl, trivial⟩
          · have hA' : c.any (·.neg) = false := by simpa using hA
            rw [hA']
            have hzero : (selG gs c how).length = 0 := by
              rcases Nat.eq_zero_or_pos (selG gs c how).length with q | q
              · exact q
              · exact absurd (hsome.1 q).1 hA
            refine op_v (v_move rfl) rfl ?_
            refine op_v (v_len Try.underlying62 rfl) rfl ?_
            refine op_v (v_cmpf rfl rfl rfl (by omega)) rfl ?_
            refine op_v (v_move rfl) rfl ?_
            refine op_v (v_move rfl) rfl ?_
            first
              | (refine op_want rfl rfl ?_
                 refine op_v (v_move rfl) rfl ?_)
              | (refine op_skip rfl rfl (by simp [undef]) rfl ?_)
            first
              | (refine op_want rfl rfl ?_
                 first | refine op_v (v_cmptA rfl rfl rfl) rfl ?_ | refine op_v (v_cmpfA rfl rfl rfl) rfl ?_ | refine op_v (v_cmp rfl rfl rfl) rfl ?_)
              | (refine op_skip rfl rfl (by simp [undef]) rfl ?_)
            first | refine op_v (v_pickt rfl rfl) rfl ?_ | refine op_v (v_pickf rfl rfl) rfl ?_ | refine op_v (v_pickb rfl rfl rfl) rfl ?_
            refine op_v (v_eqb Try.underlying4 rfl rfl rfl) rfl ?_
            refine op_v (v_move rfl) rfl ?_
            first
              | (refine op_want rfl rfl ?_
                 refine op_v (v_move rfl) rfl ?_)
              | (refine op_skip rfl rfl (by simp [undef]) rfl ?_)
            first
              | (refine op_want rfl rfl ?_
                 refine op_v (v_len Try.underlying62 rfl) rfl ?_)
              | (refine op_skip rfl rfl (by simp [undef]) rfl ?_)
            first
              | (refine op_want rfl rfl ?_
                 refine op_v (v_cmpf rfl rfl rfl (by omega)) rfl ?_)
              | (refine op_skip rfl rfl (by simp [undef]) rfl ?_)
            first | refine op_v (v_pickt rfl rfl) rfl ?_ | refine op_v (v_pickf rfl rfl) rfl ?_ | refine op_v (v_pickb rfl rfl rfl) rfl ?_
            refine ops_nil ?_
            refine post_next ?_
            refine code_cond_f rfl ?_
            refine code_skip ?_
            exact post_meet _ ⟨rfl, Imm.leA, rfl⟩ ⟨rfl, rfl, rfl, rfl, rfl, trivial⟩
        · rintro _ I1 _ ⟨rfl, hI1, rfl⟩
          refine code_seq ?_
          refine code_seq ?_
          refine code_region ?_
          refine op_v (v_assign rfl) rfl ?_
          refine ops_nil ?_
          refine post_next ?_
          refine code_block ?_
          refine code_loop (fun m σ' I' δ' => ∃ k : Nat, m = (selG gs c how).length - k ∧ k ≤ (selG gs c how).length ∧ σ' = [(0, vg), (1, .slice ad c.length c0), (2, .int .i64 how), (3, .int .i64 i), (9, .slice ua (selG gs c how).length uc), (13, .int .i64 k)] ∧ I1.le I' ∧ δ' = []) (selG gs c how).length [(0, vg), (1, .slice ad c.length c0), (2, .int .i64 how), (3, .int .i64 i), (9, .slice ua (selG gs c how).length uc), (13, .int .i64 (0 : Nat))] ⟨0, rfl, Nat.zero_le _, rfl, Imm.le_refl _, rfl⟩ ⟨rfl, rfl, rfl, rfl, rfl, rfl, trivial⟩ ?_
          rintro m _ I2 _ ⟨k2, rfl, hk2, rfl, hI2, rfl⟩
          refine code_seq ?_
          refine code_seq ?_
          refine code_region ?_
          refine op_v (v_move rfl) rfl ?_
          refine op_v (v_move rfl) rfl ?_
          refine op_v (v_len Try.underlying62 rfl) rfl ?_
          first | refine op_v (v_cmptA rfl rfl rfl) rfl ?_ | refine op_v (v_cmpfA rfl rfl rfl) rfl ?_ | refine op_v (v_cmp rfl rfl rfl) rfl ?_
          refine ops_nil ?_
          refine post_next ?_
          refine code_cond rfl (fun hc4 => ?_) (fun hc4 => ?_)
          · have hlt2 : k2 < (selG gs c how).length := by have h := hc4; simp at h; omega
            have hatu := hu24.atI k2 hlt2
            have hsu := hatu.isSome
            obtain ⟨j, hj, hel, hjn⟩ : ∃ (j : Nat) (hj : j < c.length), (selG gs c how)[k2] = (j : Int) ∧ c[j].neg = true := by
              rcases hcase with e | ⟨j, hj, e, hn⟩
              · rw [e] at hlt2; cases hlt2
              · have hk0 : k2 = 0 := by omega
                subst hk0
                exact ⟨j, hj, by simp [e], hn⟩
            rw [hel] at hatu
            obtain ⟨vj, ⟨ma, mc, na, nc, rfl, hjl, hjr⟩, hatj⟩ := hrow.cellsAt hcells hj
            have hs2 := hatj.isSome
            refine code_skip ?_
            refine post_next ?_
            refine code_seq ?_
            refine code_block ?_
            refine code_seq ?_
            refine code_region ?_
            refine op_v (v_move rfl) rfl ?_
            refine op_v (v_move rfl) rfl ?_
            first | refine op_v (v_indexA Try.underlying62 sz3 rfl rfl) rfl ?_ | refine op_v (v_indexIA Try.underlying62 sz3 rfl rfl) rfl ?_
            first | refine op_v (v_loadI0 ty3 (hatu.mono Imm.leA) rfl rfl rfl) rfl ?_ | refine op_v (v_loadI ty3 (hatu.mono Imm.leA) rfl rfl rfl) rfl ?_
            refine op_v (v_cmpf rfl rfl rfl (by omega)) rfl ?_
            refine op_v (v_move rfl) rfl ?_
            first
              | (refine op_want rfl rfl ?_
                 refine op_v (v_move rfl) rfl ?_)
              | (refine op_skip rfl rfl (by simp [undef]) rfl ?_)
            first
              | (refine op_want rfl rfl ?_
                 refine op_v (v_move rfl) rfl ?_)
              | (refine op_skip rfl rfl (by simp [undef]) rfl ?_)
            first
              | (refine op_want rfl rfl ?_
                 first | refine op_v (v_indexA Try.underlying62 sz3 rfl rfl) rfl ?_ | refine op_v (v_indexIA Try.underlying62 sz3 rfl rfl) rfl ?_)
              | (refine op_skip rfl rfl (by simp [undef]) rfl ?_)
            first
              | (refine op_want rfl rfl ?_
                 first | refine op_v (v_loadI0 ty3 (hatu.mono Imm.leA) rfl rfl rfl) rfl ?_ | refine op_v (v_loadI ty3 (hatu.mono Imm.leA) rfl rfl rfl) rfl ?_)
              | (refine op_skip rfl rfl (by simp [undef]) rfl ?_)
            first
              | (refine op_want rfl rfl ?_
                 refine op_v (v_move rfl) rfl ?_)
              | (refine op_skip rfl rfl (by simp [undef]) rfl ?_)
            first
              | (refine op_want rfl rfl ?_
                 refine op_v (v_len Try.underlying26 rfl) rfl ?_)
              | (refine op_skip rfl rfl (by simp [undef]) rfl ?_)
            first
              | (refine op_want rfl rfl ?_
                 refine op_v (v_cmpf rfl rfl rfl (by omega)) rfl ?_)
              | (refine op_skip rfl rfl (by simp [undef]) rfl ?_)
            first | refine op_v (v_pickt rfl rfl) rfl ?_ | refine op_v (v_pickf rfl rfl) rfl ?_ | refine op_v (v_pickb rfl rfl rfl) rfl ?_
            refine op_v (v_move rfl) rfl ?_
            first
              | (refine op_want rfl rfl ?_
                 refine op_v (v_move rfl) rfl ?_)
              | (refine op_skip rfl rfl (by simp [undef]) rfl ?_)
            first
              | (refine op_want rfl rfl ?_
                 refine op_v (v_move rfl) rfl ?_)
              | (refine op_skip rfl rfl (by simp [undef]) rfl ?_)
            first
              | (refine op_want rfl rfl ?_
                 refine op_v (v_move rfl) rfl ?_)
              | (refine op_skip rfl rfl (by simp [undef]) rfl ?_)
            first
              | (refine op_want rfl rfl ?_
                 first | refine op_v (v_indexA Try.underlying62 sz3 rfl rfl) rfl ?_ | refine op_v (v_indexIA Try.underlying62 sz3 rfl rfl) rfl ?_)
              | (refine op_skip rfl rfl (by simp [undef]) rfl ?_)
            first
              | (refine op_want rfl rfl ?_
                 first | refine op_v (v_loadI0 ty3 (hatu.mono Imm.leA) rfl rfl rfl) rfl ?_ | refine op_v (v_loadI ty3 (hatu.mono Imm.leA) rfl rfl rfl) rfl ?_)
              | (refine op_skip rfl rfl (by simp [undef]) rfl ?_)
            first
              | (refine op_want rfl rfl ?_
                 first | refine op_v (v_indexA Try.underlying26 sz49 rfl rfl) rfl ?_ | refine op_v (v_indexIA Try.underlying26 sz49 rfl rfl) rfl ?_)
              | (refine op_skip rfl rfl (by simp [undef]) rfl ?_)
            first
              | (refine op_want rfl rfl ?_
                 first | refine op_v (v_fieldB 0 Try.underlying49 rfl rfl fz4 rfl) rfl ?_ | refine op_v (v_fieldI 0 Try.underlying49 rfl rfl fz4 rfl (by assumption)) rfl ?_ | refine op_v (v_field Try.underlying49 rfl fz4 rfl rfl) rfl ?_)
              | (refine op_skip rfl rfl (by simp [undef]) rfl ?_)
            first
              | (refine op_want rfl rfl ?_
                 refine op_v (v_loadI (k := 0) (v := .bool true) ty4 (hatj.mono Imm.leA) rfl (by show some (Value.bool c[j].neg) = _; rw [hjn]) rfl) rfl ?_)
              | (refine op_skip rfl rfl (by simp [undef]) rfl ?_)
            first
              | (refine op_want rfl rfl ?_
                 refine op_v (v_not rfl) rfl ?_)
              | (refine op_skip rfl rfl (by simp [undef]) rfl ?_)
            first | refine op_v (v_pickt rfl rfl) rfl ?_ | refine op_v (v_pickf rfl rfl) rfl ?_ | refine op_v (v_pickb rfl rfl rfl) rfl ?_
            refine ops_nil ?_
            refine post_next ?_
            refine code_cond_f rfl ?_
            refine code_skip ?_
            refine post_out ?_
            refine post_next ?_
            refine code_region ?_
            refine op_v (v_move rfl) rfl ?_
            first | refine op_v (v_addb rfl rfl rfl (by omega)) rfl ?_ | refine op_v (v_add rfl rfl) rfl ?_
            refine op_v (v_assign rfl) rfl ?_
            refine ops_nil ?_
            refine post_again ((selG gs c how).length - (k2 + 1)) [(0, vg), (1, .slice ad c.length c0), (2, .int .i64 how), (3, .int .i64 i), (9, .slice ua (selG gs c how).length uc), (13, .int .i64 (k2 + 1 : Nat))] (by omega) ⟨k2 + 1, rfl, hlt2, rfl, Imm.leA, rfl⟩ ⟨rfl, rfl, rfl, rfl, rfl, rfl, trivial⟩
          · refine code_exit ?_
            refine post_exit_then ?_
            refine post_exit_then ?_
            refine post_exit ?_
            refine post_next ?_
            refine code_seq ?_
            refine code_region ?_
            refine op_v (v_move rfl) rfl ?_
            refine op_v (v_move rfl) rfl ?_
            refine op_v (v_move rfl) rfl ?_
            refine op_v (v_move rfl) rfl ?_
            refine op_call pl51 rfl rfl ((May_does (how := how) (i := i) (hg.mono Imm.leA) (hv.mono Imm.leA) (repB_nil _) (by intro b hb; cases hb) hsz)) Parts.none ?_
            rintro v99 I99 _ hI99 ⟨⟨m, e, rfl, hm⟩, rfl⟩
            refine op_v (v_move rfl) rfl ?_
            rcases may_nil he hm with ⟨hout, rfl⟩ | ⟨rfl, rfl⟩
            · refine op_v (v_extract rfl rfl) rfl ?_
              refine op_v (v_extract rfl rfl) rfl ?_
              refine op_v (v_assign rfl) rfl ?_
              refine op_v (v_assign rfl) rfl ?_
              refine ops_nil ?_
              refine post_next ?_
              refine code_seq ?_
              refine code_seq ?_
              refine code_region ?_
              refine op_v (v_move rfl) rfl ?_
              first | refine op_v (v_cmptA rfl rfl rfl) rfl ?_ | refine op_v (v_cmpfA rfl rfl rfl) rfl ?_ | refine op_v (v_cmp rfl rfl rfl) rfl ?_
              refine ops_nil ?_
              refine post_next ?_
              refine code_cond_t rfl ?_
              refine code_seq ?_
              refine code_region ?_
              refine op_call pl47 rfl rfl ((awake11_does _)) Parts.none ?_
              rintro v104 I104 _ hI104 ⟨rfl, rfl⟩
              refine op_v (v_move rfl) rfl ?_
              first
                | (refine op_want rfl rfl ?_
                   refine op_v (v_move rfl) rfl ?_)
                | (refine op_skip rfl rfl (by simp [undef]) rfl ?_)
              by_cases h107 : i < 0
              · first
                  | (refine op_want rfl rfl ?_
                     first | refine op_v (v_cmptA rfl rfl rfl) rfl ?_ | refine op_v (v_cmpfA rfl rfl rfl) rfl ?_ | refine op_v (v_cmp rfl rfl rfl) rfl ?_)
                  | (refine op_skip rfl rfl (by simp [undef]) rfl ?_)
                first
                  | (refine op_want rfl rfl ?_
                     refine op_v (v_move rfl) rfl ?_)
                  | (refine op_skip rfl rfl (by simp [undef]) rfl ?_)
                first
                  | (refine op_want rfl rfl ?_
                     refine op_v (v_move rfl) rfl ?_)
                  | (refine op_skip rfl rfl (by simp [undef]) rfl ?_)
                first
                  | (refine op_want rfl rfl ?_
                     refine op_v (v_move rfl) rfl ?_)
                  | (refine op_skip rfl rfl (by simp [undef]) rfl ?_)
                first
                  | (refine op_want rfl rfl ?_
                     refine op_v (v_len Try.underlying26 rfl) rfl ?_)
                  | (refine op_skip rfl rfl (by simp [undef]) rfl ?_)
                first
                  | (refine op_want rfl rfl ?_
                     refine op_v (v_cmpt rfl rfl rfl (by omega)) rfl ?_)
                  | (refine op_skip rfl rfl (by simp [undef]) rfl ?_)
                first
                  | (refine op_want rfl rfl ?_
                     first | refine op_v (v_pickt rfl rfl) rfl ?_ | refine op_v (v_pickf rfl rfl) rfl ?_ | refine op_v (v_pickb rfl rfl rfl) rfl ?_)
                  | (refine op_skip rfl rfl (by simp [undef]) rfl ?_)
                first | refine op_v (v_pickt rfl rfl) rfl ?_ | refine op_v (v_pickf rfl rfl) rfl ?_ | refine op_v (v_pickb rfl rfl rfl) rfl ?_
                refine op_v (v_assign rfl) rfl ?_
                refine ops_nil ?_
                refine post_next ?_
                refine code_ret ?_
                refine post_ret_then ?_
                refine post_ret (rs := [.tmp 8]) rfl (List.Perm.refl _) (.cons (.tmp rfl) .nil) (List.nil_sublist _) ?_
                exact ⟨rfl, rfl⟩
              · first
                  | (refine op_want rfl rfl ?_
                     first | refine op_v (v_cmptA rfl rfl rfl) rfl ?_ | refine op_v (v_cmpfA rfl rfl rfl) rfl ?_ | refine op_v (v_cmp rfl rfl rfl) rfl ?_)
                  | (refine op_skip rfl rfl (by simp [undef]) rfl ?_)
                first
                  | (refine op_want rfl rfl ?_
                     refine op_v (v_move rfl) rfl ?_)
                  | (refine op_skip rfl rfl (by simp [undef]) rfl ?_)
                first
                  | (refine op_want rfl rfl ?_
                     refine op_v (v_move rfl) rfl ?_)
                  | (refine op_skip rfl rfl (by simp [undef]) rfl ?_)
                first
                  | (refine op_want rfl rfl ?_
                     refine op_v (v_move rfl) rfl ?_)
                  | (refine op_skip rfl rfl (by simp [undef]) rfl ?_)
                first
                  | (refine op_want rfl rfl ?_
                     refine op_v (v_len Try.underlying26 rfl) rfl ?_)
                  | (refine op_skip rfl rfl (by simp [undef]) rfl ?_)
                first
                  | (refine op_want rfl rfl ?_
                     refine op_v (v_cmpt rfl rfl rfl (by omega)) rfl ?_)
                  | (refine op_skip rfl rfl (by simp [undef]) rfl ?_)
                first
                  | (refine op_want rfl rfl ?_
                     first | refine op_v (v_pickt rfl rfl) rfl ?_ | refine op_v (v_pickf rfl rfl) rfl ?_ | refine op_v (v_pickb rfl rfl rfl) rfl ?_)
                  | (refine op_skip rfl rfl (by simp [undef]) rfl ?_)
                first | refine op_v (v_pickt rfl rfl) rfl ?_ | refine op_v (v_pickf rfl rfl) rfl ?_ | refine op_v (v_pickb rfl rfl rfl) rfl ?_
                refine op_v (v_assign rfl) rfl ?_
                refine ops_nil ?_
                refine post_next ?_
                refine code_ret ?_
                refine post_ret_then ?_
                refine post_ret (rs := [.tmp 8]) rfl (List.Perm.refl _) (.cons (.tmp rfl) .nil) (List.nil_sublist _) ?_
                exact ⟨rfl, rfl⟩
            · refine op_v (v_extract rfl rfl) rfl ?_
              refine op_v (v_extract rfl rfl) rfl ?_
              refine op_v (v_assign rfl) rfl ?_
              refine op_v (v_assign rfl) rfl ?_
              refine ops_nil ?_
              refine post_next ?_
              refine code_seq ?_
              refine code_seq ?_
              refine code_region ?_
              refine op_v (v_move rfl) rfl ?_
              first | refine op_v (v_cmptA rfl rfl rfl) rfl ?_ | refine op_v (v_cmpfA rfl rfl rfl) rfl ?_ | refine op_v (v_cmp rfl rfl rfl) rfl ?_
              refine ops_nil ?_
              refine post_next ?_
              refine code_cond_f rfl ?_
              refine code_skip ?_
              refine post_next ?_
              refine code_seq ?_
              refine code_region ?_
              refine op_call pl47 rfl rfl ((awake11_does _)) Parts.none ?_
              rintro v115 I115 _ hI115 ⟨rfl, rfl⟩
              refine op_v (v_move rfl) rfl ?_
              first
                | (refine op_want rfl rfl ?_
                   refine op_v (v_move rfl) rfl ?_)
                | (refine op_skip rfl rfl (by simp [undef]) rfl ?_)
              by_cases h118 : (selG gs c how).length = 0
              · first
                  | (refine op_want rfl rfl ?_
                     refine op_v (v_len Try.underlying62 rfl) rfl ?_)
                  | (refine op_skip rfl rfl (by simp [undef]) rfl ?_)
                first
                  | (refine op_want rfl rfl ?_
                     refine op_v (v_cmpt rfl rfl rfl (by omega)) rfl ?_)
                  | (refine op_skip rfl rfl (by simp [undef]) rfl ?_)
                first
                  | (refine op_want rfl rfl ?_
                     refine op_v (v_move rfl) rfl ?_)
                  | (refine op_skip rfl rfl (by simp [undef]) rfl ?_)
                first
                  | (refine op_want rfl rfl ?_
                     refine op_v (v_move rfl) rfl ?_)
                  | (refine op_skip rfl rfl (by simp [undef]) rfl ?_)
                first
                  | (refine op_want rfl rfl ?_
                     refine op_v (v_move rfl) rfl ?_)
                  | (refine op_skip rfl rfl (by simp [undef]) rfl ?_)
                first
                  | (refine op_want rfl rfl ?_
                     first | refine op_v (v_indexA Try.underlying62 sz3 rfl rfl) rfl ?_ | refine op_v (v_indexIA Try.underlying62 sz3 rfl rfl) rfl ?_)
                  | (refine op_skip rfl rfl (by simp [undef]) rfl ?_)
                first
                  | (refine op_want rfl rfl ?_
                     first | refine op_v (v_loadI0 ty3 (hatu.mono Imm.leA) rfl rfl rfl) rfl ?_ | refine op_v (v_loadI ty3 (hatu.mono Imm.leA) rfl rfl rfl) rfl ?_)
                  | (refine op_skip rfl rfl (by simp [undef]) rfl ?_)
                first
                  | (refine op_want rfl rfl ?_
                     refine op_v (v_move rfl) rfl ?_)
                  | (refine op_skip rfl rfl (by simp [undef]) rfl ?_)
                first
                  | (refine op_want rfl rfl ?_
                     first | refine op_v (v_cmptA rfl rfl rfl) rfl ?_ | refine op_v (v_cmpfA rfl rfl rfl) rfl ?_ | refine op_v (v_cmp rfl rfl rfl) rfl ?_)
                  | (refine op_skip rfl rfl (by simp [undef]) rfl ?_)
                first
                  | (refine op_want rfl rfl ?_
                     refine op_v (v_eqb Try.underlying4 rfl rfl rfl) rfl ?_)
                  | (refine op_skip rfl rfl (by simp [undef]) rfl ?_)
                first
                  | (refine op_want rfl rfl ?_
                     first | refine op_v (v_pickt rfl rfl) rfl ?_ | refine op_v (v_pickf rfl rfl) rfl ?_ | refine op_v (v_pickb rfl rfl rfl) rfl ?_)
                  | (refine op_skip rfl rfl (by simp [undef]) rfl ?_)
                first | refine op_v (v_pickt rfl rfl) rfl ?_ | refine op_v (v_pickf rfl rfl) rfl ?_ | refine op_v (v_pickb rfl rfl rfl) rfl ?_
                refine op_v (v_assign rfl) rfl ?_
                refine ops_nil ?_
                refine post_next ?_
                refine code_ret ?_
                refine post_ret (rs := [.tmp 8]) rfl (List.Perm.refl _) (.cons (.tmp rfl) .nil) (List.nil_sublist _) ?_
                exact ⟨rfl, rfl⟩
              · obtain ⟨j, hj, e, hn⟩ := hcase.resolve_left (fun h => h118 (by rw [h]; rfl))
                have hatu := hu24.atI 0 (by omega)
                have hsu := hatu.isSome
                have hel : (selG gs c how)[0]'(by omega) = (j : Int) := by simp [e]
                rw [hel] at hatu
                have hmay : mayB gs c c how i = decide ((j : Int) = i) := by
                  unfold mayB; rw [if_pos (by rw [e]; exact Nat.zero_lt_one), e]
                  exact decide_eq_decide.2 ⟨fun h => (List.mem_singleton.1 h).symm, fun h => List.mem_singleton.2 h.symm⟩
                first
                  | (refine op_want rfl rfl ?_
                     refine op_v (v_len Try.underlying62 rfl) rfl ?_)
                  | (refine op_skip rfl rfl (by simp [undef]) rfl ?_)
                first
                  | (refine op_want rfl rfl ?_
                     refine op_v (v_cmpf rfl rfl rfl (by omega)) rfl ?_)
                  | (refine op_skip rfl rfl (by simp [undef]) rfl ?_)
                first
                  | (refine op_want rfl rfl ?_
                     refine op_v (v_move rfl) rfl ?_)
                  | (refine op_skip rfl rfl (by simp [undef]) rfl ?_)
                by_cases hji : (j : Int) = i
                · rw [show mayB gs c c how i = true from by rw [hmay]; simp [hji]]
                  first
                    | (refine op_want rfl rfl ?_
                       refine op_v (v_move rfl) rfl ?_)
                    | (refine op_skip rfl rfl (by simp [undef]) rfl ?_)
                  first
                    | (refine op_want rfl rfl ?_
                       refine op_v (v_move rfl) rfl ?_)
                    | (refine op_skip rfl rfl (by simp [undef]) rfl ?_)
                  first
                    | (refine op_want rfl rfl ?_
                       first | refine op_v (v_indexA Try.underlying62 sz3 rfl rfl) rfl ?_ | refine op_v (v_indexIA Try.underlying62 sz3 rfl rfl) rfl ?_)
                    | (refine op_skip rfl rfl (by simp [undef]) rfl ?_)
                  first
                    | (refine op_want rfl rfl ?_
                       first | refine op_v (v_loadI0 ty3 (hatu.mono Imm.leA) rfl rfl rfl) rfl ?_ | refine op_v (v_loadI ty3 (hatu.mono Imm.leA) rfl rfl rfl) rfl ?_)
                    | (refine op_skip rfl rfl (by simp [undef]) rfl ?_)
                  first
                    | (refine op_want rfl rfl ?_
                       refine op_v (v_move rfl) rfl ?_)
                    | (refine op_skip rfl rfl (by simp [undef]) rfl ?_)
                  first
                    | (refine op_want rfl rfl ?_
                       refine op_v (v_cmpt rfl rfl rfl hji) rfl ?_)
                    | (refine op_skip rfl rfl (by simp [undef]) rfl ?_)
                  first
                    | (refine op_want rfl rfl ?_
                       refine op_v (v_eqb Try.underlying4 rfl rfl rfl) rfl ?_)
                    | (refine op_skip rfl rfl (by simp [undef]) rfl ?_)
                  first
                    | (refine op_want rfl rfl ?_
                       first | refine op_v (v_pickt rfl rfl) rfl ?_ | refine op_v (v_pickf rfl rfl) rfl ?_ | refine op_v (v_pickb rfl rfl rfl) rfl ?_)
                    | (refine op_skip rfl rfl (by simp [undef]) rfl ?_)
                  first | refine op_v (v_pickt rfl rfl) rfl ?_ | refine op_v (v_pickf rfl rfl) rfl ?_ | refine op_v (v_pickb rfl rfl rfl) rfl ?_
                  refine op_v (v_assign rfl) rfl ?_
                  refine ops_nil ?_
                  refine post_next ?_
                  refine code_ret ?_
                  refine post_ret (rs := [.tmp 8]) rfl (List.Perm.refl _) (.cons (.tmp rfl) .nil) (List.nil_sublist _) ?_
                  exact ⟨rfl, rfl⟩
                · rw [show mayB gs c c how i = false from by rw [hmay]; simp [hji]]
                  first
                    | (refine op_want rfl rfl ?_
                       refine op_v (v_move rfl) rfl ?_)
                    | (refine op_skip rfl rfl (by simp [undef]) rfl ?_)
                  first
                    | (refine op_want rfl rfl ?_
                       refine op_v (v_move rfl) rfl ?_)
                    | (refine op_skip rfl rfl (by simp [undef]) rfl ?_)
                  first
                    | (refine op_want rfl rfl ?_
                       first | refine op_v (v_indexA Try.underlying62 sz3 rfl rfl) rfl ?_ | refine op_v (v_indexIA Try.underlying62 sz3 rfl rfl) rfl ?_)
                    | (refine op_skip rfl rfl (by simp [undef]) rfl ?_)
                  first
                    | (refine op_want rfl rfl ?_
                       first | refine op_v (v_loadI0 ty3 (hatu.mono Imm.leA) rfl rfl rfl) rfl ?_ | refine op_v (v_loadI ty3 (hatu.mono Imm.leA) rfl rfl rfl) rfl ?_)
                    | (refine op_skip rfl rfl (by simp [undef]) rfl ?_)
                  first
                    | (refine op_want rfl rfl ?_
                       refine op_v (v_move rfl) rfl ?_)
                    | (refine op_skip rfl rfl (by simp [undef]) rfl ?_)
                  first
                    | (refine op_want rfl rfl ?_
                       refine op_v (v_cmpf rfl rfl rfl hji) rfl ?_)
                    | (refine op_skip rfl rfl (by simp [undef]) rfl ?_)
                  first
                    | (refine op_want rfl rfl ?_
                       refine op_v (v_eqb Try.underlying4 rfl rfl rfl) rfl ?_)
                    | (refine op_skip rfl rfl (by simp [undef]) rfl ?_)
                  first
                    | (refine op_want rfl rfl ?_
                       first | refine op_v (v_pickt rfl rfl) rfl ?_ | refine op_v (v_pickf rfl rfl) rfl ?_ | refine op_v (v_pickb rfl rfl rfl) rfl ?_)
                    | (refine op_skip rfl rfl (by simp [undef]) rfl ?_)
                  first | refine op_v (v_pickt rfl rfl) rfl ?_ | refine op_v (v_pickf rfl rfl) rfl ?_ | refine op_v (v_pickb rfl rfl rfl) rfl ?_
                  refine op_v (v_assign rfl) rfl ?_
                  refine ops_nil ?_
                  refine post_next ?_
                  refine code_ret ?_
                  refine post_ret (rs := [.tmp 8]) rfl (List.Perm.refl _) (.cons (.tmp rfl) .nil) (List.nil_sublist _) ?_
                  exact ⟨rfl, rfl⟩
  · have h19' : b18 = false := by simpa using h19
    subst h19'
    refine op_v (v_not rfl) rfl ?_
    refine ops_nil ?_
    refine post_next ?_
    refine code_cond_t rfl ?_
    refine code_seq ?_
    refine code_region ?_
    refine op_v (v_assign rfl) rfl ?_
    refine ops_nil ?_
    refine post_next ?_
    refine code_ret ?_
    refine post_ret_then ?_
    refine post_ret (rs := [.tmp 8]) rfl (List.Perm.refl _) (.cons (.tmp rfl) .nil) (List.nil_sublist _) ?_
    exact ⟨rfl, rfl⟩
end Go.Proofs.Ytdbadicpbmndbaa
