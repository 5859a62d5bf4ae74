/- Walks: literals in worlds; the statement. -/
import Derived.Test.YtegceppoioeeaaaNl
set_option linter.unusedVariables false
set_option linter.unusedSimpArgs false
set_option linter.unnecessarySimpa false
/- short -/
namespace Go.Proofs.Ytegceppoioeeaaa
open Go Lg

theorem WRight_does {I : Imm} {vg v : Value} {gs : List Sy} {w : Wd} (hg : RepG I vg gs) (hw : RepW I v w) :
    Does Try.prog 23 [vg, v] I [] (fun v _ δ' => (∃ b, v = .bool b ∧ (b = true → WR gs w)) ∧ δ' = []) := by
  obtain ⟨A, c, rfl, hlen, hat⟩ := hw.open
  obtain ⟨ga, gc, rfl⟩ := hg.shape
  obtain ⟨_, hgc, hgb, hgat, hgok⟩ := hg.open
  refine Does.intro Try.func23 rfl Try.ntmps23 rfl fun w0 => ?_
  refine code_seq ?_
  refine code_region ?_
  refine o_box rfl rfl rfl (fun b3 => ?_)
  refine op_v (v_assign rfl) rfl ?_
  refine ops_nil ?_
  refine post_next ?_
  refine code_seq ?_
  refine code_seq ?_
  refine code_region ?_
  refine op_v (v_move rfl) rfl ?_
  refine op_call pl61 rfl rfl ((RightR_does (hg.mono Imm.leA))) Parts.none ?_
  rintro _ I9 _ hI9 ⟨rfl, rfl⟩
  by_cases e1 : rightG gs = true
  · rw [e1]
    have hgl := rightG_len e1
    refine op_v (v_not rfl) rfl ?_
    refine op_v (v_move rfl) rfl ?_
    first
      | (refine op_want rfl rfl ?_
         first | refine op_v (v_fieldB 0 Try.underlying41 rfl rfl fz3 rfl) rfl ?_ | refine op_v (v_fieldI 0 Try.underlying41 rfl rfl fz3 rfl (by assumption)) rfl ?_ | refine op_v (v_field Try.underlying41 rfl fz3 rfl rfl) rfl ?_)
      | (refine op_skip rfl rfl (by simp [undef]) rfl ?_)
    first
      | (refine op_want rfl rfl ?_
         refine op_v (v_loadA ty3 rfl rfl) rfl ?_)
      | (refine op_skip rfl rfl (by simp [undef]) rfl ?_)
    by_cases e2 : w.size < 1
    · first
        | (refine op_want rfl rfl ?_
           first | refine op_v (v_cmptA rfl rfl rfl) rfl ?_ | refine op_v (v_cmpfA rfl rfl rfl) rfl ?_ | refine op_v (v_cmp rfl rfl rfl) rfl ?_)
        | (refine op_skip rfl rfl (by simp [undef]) rfl ?_)
      first | refine op_v (v_pickt rfl rfl) rfl ?_ | refine op_v (v_pickf rfl rfl) rfl ?_ | refine op_v (v_pickb rfl rfl rfl) rfl ?_
      refine op_v (v_move rfl) rfl ?_
      first
        | (refine op_want rfl rfl ?_
           first | refine op_v (v_fieldB 0 Try.underlying41 rfl rfl fz3 rfl) rfl ?_ | refine op_v (v_fieldI 0 Try.underlying41 rfl rfl fz3 rfl (by assumption)) rfl ?_ | refine op_v (v_field Try.underlying41 rfl fz3 rfl rfl) rfl ?_)
        | (refine op_skip rfl rfl (by simp [undef]) rfl ?_)
      first
        | (refine op_want rfl rfl ?_
           refine op_v (v_loadA ty3 rfl rfl) rfl ?_)
        | (refine op_skip rfl rfl (by simp [undef]) rfl ?_)
      first
        | (refine op_want rfl rfl ?_
           first | refine op_v (v_cmptA rfl rfl rfl) rfl ?_ | refine op_v (v_cmpfA rfl rfl rfl) rfl ?_ | refine op_v (v_cmp rfl rfl rfl) rfl ?_)
        | (refine op_skip rfl rfl (by simp [undef]) rfl ?_)
      first | refine op_v (v_pickt rfl rfl) rfl ?_ | refine op_v (v_pickf rfl rfl) rfl ?_ | refine op_v (v_pickb rfl rfl rfl) rfl ?_
      refine op_v (v_move rfl) rfl ?_
      first
        | (refine op_want rfl rfl ?_
           first | refine op_v (v_fieldB 1 Try.underlying41 rfl rfl fz39 rfl) rfl ?_ | refine op_v (v_fieldI 1 Try.underlying41 rfl rfl fz39 rfl (by assumption)) rfl ?_ | refine op_v (v_field Try.underlying41 rfl fz39 rfl rfl) rfl ?_)
        | (refine op_skip rfl rfl (by simp [undef]) rfl ?_)
      first
        | (refine op_want rfl rfl ?_
           refine op_v (v_loadA ty39 rfl rfl) rfl ?_)
        | (refine op_skip rfl rfl (by simp [undef]) rfl ?_)
      first
        | (refine op_want rfl rfl ?_
           refine op_v (v_len Try.underlying39 rfl) rfl ?_)
        | (refine op_skip rfl rfl (by simp [undef]) rfl ?_)
      first
        | (refine op_want rfl rfl ?_
           refine op_v (v_move rfl) rfl ?_)
        | (refine op_skip rfl rfl (by simp [undef]) rfl ?_)
      first
        | (refine op_want rfl rfl ?_
           refine op_v (v_len Try.underlying22 rfl) rfl ?_)
        | (refine op_skip rfl rfl (by simp [undef]) rfl ?_)
      first
        | (refine op_want rfl rfl ?_
           first | refine op_v (v_cmptA rfl rfl rfl) rfl ?_ | refine op_v (v_cmpfA rfl rfl rfl) rfl ?_ | refine op_v (v_cmp rfl rfl rfl) rfl ?_)
        | (refine op_skip rfl rfl (by simp [undef]) rfl ?_)
      first | refine op_v (v_pickt rfl rfl) rfl ?_ | refine op_v (v_pickf rfl rfl) rfl ?_ | refine op_v (v_pickb rfl rfl rfl) rfl ?_
      refine ops_nil ?_
      refine post_next ?_
      refine code_cond_t rfl ?_
      refine code_seq ?_
      refine code_region ?_
      refine op_v (v_assign rfl) rfl ?_
      refine ops_nil ?_
      refine post_next ?_
      refine code_ret ?_
      refine post_ret_then ?_
      refine post_ret (rs := [.tmp 4]) rfl (List.Perm.refl _) (.cons (.tmp rfl) .nil) (List.nil_sublist _) ?_
      exact ⟨⟨false, rfl, fun h => by cases h⟩, rfl⟩
    · first
        | (refine op_want rfl rfl ?_
           first | refine op_v (v_cmptA rfl rfl rfl) rfl ?_ | refine op_v (v_cmpfA rfl rfl rfl) rfl ?_ | refine op_v (v_cmp rfl rfl rfl) rfl ?_)
        | (refine op_skip rfl rfl (by simp [undef]) rfl ?_)
      first | refine op_v (v_pickt rfl rfl) rfl ?_ | refine op_v (v_pickf rfl rfl) rfl ?_ | refine op_v (v_pickb rfl rfl rfl) rfl ?_
      refine op_v (v_move rfl) rfl ?_
      first
        | (refine op_want rfl rfl ?_
           first | refine op_v (v_fieldB 0 Try.underlying41 rfl rfl fz3 rfl) rfl ?_ | refine op_v (v_fieldI 0 Try.underlying41 rfl rfl fz3 rfl (by assumption)) rfl ?_ | refine op_v (v_field Try.underlying41 rfl fz3 rfl rfl) rfl ?_)
        | (refine op_skip rfl rfl (by simp [undef]) rfl ?_)
      first
        | (refine op_want rfl rfl ?_
           refine op_v (v_loadA ty3 rfl rfl) rfl ?_)
        | (refine op_skip rfl rfl (by simp [undef]) rfl ?_)
      by_cases e3 : 4 < w.size
      · first
          | (refine op_want rfl rfl ?_
             first | refine op_v (v_cmptA rfl rfl rfl) rfl ?_ | refine op_v (v_cmpfA rfl rfl rfl) rfl ?_ | refine op_v (v_cmp rfl rfl rfl) rfl ?_)
          | (refine op_skip rfl rfl (by simp [undef]) rfl ?_)
        first | refine op_v (v_pickt rfl rfl) rfl ?_ | refine op_v (v_pickf rfl rfl) rfl ?_ | refine op_v (v_pickb rfl rfl rfl) rfl ?_
        refine op_v (v_move rfl) rfl ?_
        first
          | (refine op_want rfl rfl ?_
             first | refine op_v (v_fieldB 1 Try.underlying41 rfl rfl fz39 rfl) rfl ?_ | refine op_v (v_fieldI 1 Try.underlying41 rfl rfl fz39 rfl (by assumption)) rfl ?_ | refine op_v (v_field Try.underlying41 rfl fz39 rfl rfl) rfl ?_)
          | (refine op_skip rfl rfl (by simp [undef]) rfl ?_)
        first
          | (refine op_want rfl rfl ?_
             refine op_v (v_loadA ty39 rfl rfl) rfl ?_)
          | (refine op_skip rfl rfl (by simp [undef]) rfl ?_)
        first
          | (refine op_want rfl rfl ?_
             refine op_v (v_len Try.underlying39 rfl) rfl ?_)
          | (refine op_skip rfl rfl (by simp [undef]) rfl ?_)
        first
          | (refine op_want rfl rfl ?_
             refine op_v (v_move rfl) rfl ?_)
          | (refine op_skip rfl rfl (by simp [undef]) rfl ?_)
        first
          | (refine op_want rfl rfl ?_
             refine op_v (v_len Try.underlying22 rfl) rfl ?_)
          | (refine op_skip rfl rfl (by simp [undef]) rfl ?_)
        first
          | (refine op_want rfl rfl ?_
             first | refine op_v (v_cmptA rfl rfl rfl) rfl ?_ | refine op_v (v_cmpfA rfl rfl rfl) rfl ?_ | refine op_v (v_cmp rfl rfl rfl) rfl ?_)
          | (refine op_skip rfl rfl (by simp [undef]) rfl ?_)
        first | refine op_v (v_pickt rfl rfl) rfl ?_ | refine op_v (v_pickf rfl rfl) rfl ?_ | refine op_v (v_pickb rfl rfl rfl) rfl ?_
        refine ops_nil ?_
        refine post_next ?_
        refine code_cond_t rfl ?_
        refine code_seq ?_
        refine code_region ?_
        refine op_v (v_assign rfl) rfl ?_
        refine ops_nil ?_
        refine post_next ?_
        refine code_ret ?_
        refine post_ret_then ?_
        refine post_ret (rs := [.tmp 4]) rfl (List.Perm.refl _) (.cons (.tmp rfl) .nil) (List.nil_sublist _) ?_
        exact ⟨⟨false, rfl, fun h => by cases h⟩, rfl⟩
      · first
          | (refine op_want rfl rfl ?_
             first | refine op_v (v_cmptA rfl rfl rfl) rfl ?_ | refine op_v (v_cmpfA rfl rfl rfl) rfl ?_ | refine op_v (v_cmp rfl rfl rfl) rfl ?_)
          | (refine op_skip rfl rfl (by simp [undef]) rfl ?_)
        first | refine op_v (v_pickt rfl rfl) rfl ?_ | refine op_v (v_pickf rfl rfl) rfl ?_ | refine op_v (v_pickb rfl rfl rfl) rfl ?_
        refine op_v (v_move rfl) rfl ?_
        first
          | (refine op_want rfl rfl ?_
             first | refine op_v (v_fieldB 1 Try.underlying41 rfl rfl fz39 rfl) rfl ?_ | refine op_v (v_fieldI 1 Try.underlying41 rfl rfl fz39 rfl (by assumption)) rfl ?_ | refine op_v (v_field Try.underlying41 rfl fz39 rfl rfl) rfl ?_)
          | (refine op_skip rfl rfl (by simp [undef]) rfl ?_)
        first
          | (refine op_want rfl rfl ?_
             refine op_v (v_loadA ty39 rfl rfl) rfl ?_)
          | (refine op_skip rfl rfl (by simp [undef]) rfl ?_)
        first
          | (refine op_want rfl rfl ?_
             refine op_v (v_len Try.underlying39 rfl) rfl ?_)
          | (refine op_skip rfl rfl (by simp [undef]) rfl ?_)
        first
          | (refine op_want rfl rfl ?_
             refine op_v (v_move rfl) rfl ?_)
          | (refine op_skip rfl rfl (by simp [undef]) rfl ?_)
        first
          | (refine op_want rfl rfl ?_
             refine op_v (v_len Try.underlying22 rfl) rfl ?_)
          | (refine op_skip rfl rfl (by simp [undef]) rfl ?_)
        by_cases e4 : (w.rows.length : Int) ≠ gs.length
        · first
            | (refine op_want rfl rfl ?_
               first | refine op_v (v_cmptA rfl rfl rfl) rfl ?_ | refine op_v (v_cmpfA rfl rfl rfl) rfl ?_ | refine op_v (v_cmp rfl rfl rfl) rfl ?_)
            | (refine op_skip rfl rfl (by simp [undef]) rfl ?_)
          first | refine op_v (v_pickt rfl rfl) rfl ?_ | refine op_v (v_pickf rfl rfl) rfl ?_ | refine op_v (v_pickb rfl rfl rfl) rfl ?_
          refine ops_nil ?_
          refine post_next ?_
          refine code_cond_t rfl ?_
          refine code_seq ?_
          refine code_region ?_
          refine op_v (v_assign rfl) rfl ?_
          refine ops_nil ?_
          refine post_next ?_
          refine code_ret ?_
          refine post_ret_then ?_
          refine post_ret (rs := [.tmp 4]) rfl (List.Perm.refl _) (.cons (.tmp rfl) .nil) (List.nil_sublist _) ?_
          exact ⟨⟨false, rfl, fun h => by cases h⟩, rfl⟩
        · have hlr : w.rows.length = gs.length := by omega
          first
            | (refine op_want rfl rfl ?_
               first | refine op_v (v_cmptA rfl rfl rfl) rfl ?_ | refine op_v (v_cmpfA rfl rfl rfl) rfl ?_ | refine op_v (v_cmp rfl rfl rfl) rfl ?_)
            | (refine op_skip rfl rfl (by simp [undef]) rfl ?_)
          first | refine op_v (v_pickt rfl rfl) rfl ?_ | refine op_v (v_pickf rfl rfl) rfl ?_ | refine op_v (v_pickb rfl rfl rfl) rfl ?_
          refine ops_nil ?_
          refine post_next ?_
          refine code_cond_f rfl ?_
          refine code_skip ?_
          refine post_next ?_
          refine code_seq ?_
          refine code_seq ?_
          refine code_region ?_
          refine op_v (v_assign rfl) rfl ?_
          refine ops_nil ?_
          refine post_next ?_
          refine code_block ?_
          refine code_loop (fun m σ' I' δ' => ∃ k : Nat, m = gs.length - k ∧ k ≤ gs.length ∧ σ' = [(0, .slice ga gs.length gc), (3, .pointer (some ⟨b3, 0, none⟩)), (5, .int .i64 k)] ∧ I.le I' ∧ δ' = [.box b3 41 [.int .i64 w.size, .slice A w.rows.length c]] ∧ ∀ i (h : i < gs.length), i < k → gs[i].ar ≤ 4 ∧ ((w.rows[i]'(by omega)).length : Int) = w.size ^ gs[i].ar.toNat ∧ ∀ x ∈ w.rows[i]'(by omega), 0 ≤ x ∧ (gs[i].tr = false → x < w.size)) gs.length [(0, .slice ga gs.length gc), (3, .pointer (some ⟨b3, 0, none⟩)), (5, .int .i64 (0 : Nat))] ⟨0, rfl, Nat.zero_le _, rfl, Imm.leA, rfl, fun i _ h => by omega⟩ ⟨rfl, rfl, rfl, trivial⟩ ?_
          rintro m _ I0 _ ⟨k, rfl, hk, rfl, hI0, rfl, hp⟩
          refine code_seq ?_
          refine code_seq ?_
          refine code_region ?_
          refine op_v (v_move rfl) rfl ?_
          refine op_v (v_move rfl) rfl ?_
          refine op_v (v_len Try.underlying22 rfl) rfl ?_
          first | refine op_v (v_cmptA rfl rfl rfl) rfl ?_ | refine op_v (v_cmpfA rfl rfl rfl) rfl ?_ | refine op_v (v_cmp rfl rfl rfl) rfl ?_
          refine ops_nil ?_
          refine post_next ?_
          refine code_cond rfl (fun hc1 => ?_) (fun hc1 => ?_)
          · have hlt : k < gs.length := by simpa using hc1
            have hs1 := (hgat k hlt).isSome
            have har0 := right_ar e1 k hlt
            obtain ⟨ed, ec, hate, hre⟩ := hat k (by omega)
            have hs2 := hate.isSome
            have hrl := hre
            generalize hrow : w.rows[k]'(by omega) = row at hate hre hrl
            have hrl2 := hrl.len
            refine code_skip ?_
            refine post_next ?_
            refine code_seq ?_
            refine code_block ?_
            refine code_seq ?_
            refine code_region ?_
            first | refine op_v (v_fieldB 0 Try.underlying41 rfl rfl fz3 rfl) rfl ?_ | refine op_v (v_fieldI 0 Try.underlying41 rfl rfl fz3 rfl (by assumption)) rfl ?_ | refine op_v (v_field Try.underlying41 rfl fz3 rfl rfl) rfl ?_
            refine op_v (v_loadA ty3 rfl rfl) rfl ?_
            refine op_v (v_assign rfl) rfl ?_
            refine ops_nil ?_
            refine post_next ?_
            refine code_seq_meet (fun σ' I' δ' => ∃ most : Int, σ' = [(0, .slice ga gs.length gc), (3, .pointer (some ⟨b3, 0, none⟩)), (5, .int .i64 k), (6, .int .i64 most)] ∧ I0 = I' ∧ δ' = [.box b3 41 [.int .i64 w.size, .slice A w.rows.length c]] ∧ (gs[k].tr = false → most = w.size)) ?_ ?_
            · refine code_seq ?_
              refine code_region ?_
              refine op_v (v_move rfl) rfl ?_
              refine op_v (v_move rfl) rfl ?_
              first | refine op_v (v_indexA Try.underlying22 sz71 rfl rfl) rfl ?_ | refine op_v (v_indexIA Try.underlying22 sz71 rfl rfl) rfl ?_
              first | refine op_v (v_fieldB 3 Try.underlying71 rfl rfl fz4 rfl) rfl ?_ | refine op_v (v_fieldI 3 Try.underlying71 rfl rfl fz4 rfl (by assumption)) rfl ?_ | refine op_v (v_field Try.underlying71 rfl fz4 rfl rfl) rfl ?_
              first | refine op_v (v_loadI0 ty4 ((hgat k hlt).mono Imm.leA) rfl rfl rfl) rfl ?_ | refine op_v (v_loadI ty4 ((hgat k hlt).mono Imm.leA) rfl rfl rfl) rfl ?_
              refine ops_nil ?_
              refine post_next ?_
              refine code_cond rfl (fun hc2 => ?_) (fun hc2 => ?_)
              · have htr : gs[k].tr = true := hc2
                refine code_region ?_
                refine op_v (v_assign rfl) rfl ?_
                refine ops_nil ?_
                refine post_meet _ ⟨2, rfl, rfl, rfl, fun h => by rw [htr] at h; cases h⟩ ⟨rfl, rfl, rfl, rfl, trivial⟩
              · have htr : gs[k].tr = false := hc2
                refine code_skip ?_
                refine post_meet _ ⟨w.size, rfl, rfl, rfl, fun _ => rfl⟩ ⟨rfl, rfl, rfl, rfl, trivial⟩
            · rintro _ _ _ ⟨most, rfl, rfl, rfl, hmost⟩
              refine code_seq ?_
              refine code_seq ?_
              refine code_draw (.fl 0 (.fl 1 (.fl 2 (.fl 3 (.fl 4 (.fl 5 (.fl 6 (.fl 7 (.fl 8 (.fl 9 (.fl 10 (.fl 11 (.fl 12 (.fl 13 (.fl 14 (.fl 15 (.fl 16 (.fl 17 (.fl 18 (.fl 19 (.ef 20 (.fl 21 (.fl 22 .done))))))))))))))))))))))) (fun _ => _) mixed (by kernel_rfl) (by kernel_rfl) (fun _ => (List.Sublist.refl _)) ?_
              refine e_fl rfl rfl (fun hs_ => PF.mk rfl (v_move rfl) hs_) ?_
              refine e_fl rfl rfl (fun hs_ => PF.mk rfl (v_move rfl) hs_) ?_
              first | refine e_fl rfl rfl (fun hs_ => PF.mk rfl (v_indexA Try.underlying22 sz71 rfl rfl) hs_) ?_ | refine e_fl rfl rfl (fun hs_ => PF.mk rfl (v_indexIA Try.underlying22 sz71 rfl rfl) hs_) ?_
              first | refine e_fl rfl rfl (fun hs_ => PF.mk rfl (v_fieldB 1 Try.underlying71 rfl rfl fz3 rfl) hs_) ?_ | refine e_fl rfl rfl (fun hs_ => PF.mk rfl (v_fieldI 1 Try.underlying71 rfl rfl fz3 rfl (by assumption)) hs_) ?_ | refine e_fl rfl rfl (fun hs_ => PF.mk rfl (v_field Try.underlying71 rfl fz3 rfl rfl) hs_) ?_
              first | refine e_fl rfl rfl (fun hs_ => PF.mk rfl (v_loadI0 ty3 ((hgat k hlt).mono Imm.leA) rfl rfl rfl) hs_) ?_ | refine e_fl rfl rfl (fun hs_ => PF.mk rfl (v_loadI ty3 ((hgat k hlt).mono Imm.leA) rfl rfl rfl) hs_) ?_
              by_cases e5 : 4 < gs[k].ar
              · first | refine e_fl rfl rfl (fun hs_ => PF.mk rfl (v_cmptA rfl rfl rfl) hs_) ?_ | refine e_fl rfl rfl (fun hs_ => PF.mk rfl (v_cmpfA rfl rfl rfl) hs_) ?_ | refine e_fl rfl rfl (fun hs_ => PF.mk rfl (v_cmp rfl rfl rfl) hs_) ?_
                refine e_fl rfl rfl (fun hs_ => PF.mk rfl (v_move rfl) hs_) ?_
                first | refine e_fl rfl rfl (fun hs_ => PF.mkg rfl rfl rfl (v_fieldB 1 Try.underlying41 rfl rfl fz39 rfl) hs_) ?_ | refine e_fl rfl rfl (fun hs_ => PF.mkg rfl rfl rfl (v_fieldI 1 Try.underlying41 rfl rfl fz39 rfl (by assumption)) hs_) ?_ | refine e_fl rfl rfl (fun hs_ => PF.mkg rfl rfl rfl (v_field Try.underlying41 rfl fz39 rfl rfl) hs_) ?_ | refine e_fl rfl rfl (fun hs_ => PF.mks rfl (by intro c hc; cases hc) rfl rfl (by simp [undef]) hs_) ?_
                first | refine e_fl rfl rfl (fun hs_ => PF.mkg rfl rfl rfl (v_loadA ty39 rfl rfl) hs_) ?_ | refine e_fl rfl rfl (fun hs_ => PF.mks rfl (by intro c hc; cases hc) rfl rfl (by simp [undef]) hs_) ?_
                first | refine e_fl rfl rfl (fun hs_ => PF.mkg rfl rfl rfl (v_move rfl) hs_) ?_ | refine e_fl rfl rfl (fun hs_ => PF.mks rfl (by intro c hc; cases hc) rfl rfl (by simp [undef]) hs_) ?_
                first | refine e_fl rfl rfl (fun hs_ => PF.mkg rfl rfl rfl (v_indexA Try.underlying39 sz42 rfl rfl) hs_) ?_ | refine e_fl rfl rfl (fun hs_ => PF.mkg rfl rfl rfl (v_indexIA Try.underlying39 sz42 rfl rfl) hs_) ?_ | refine e_fl rfl rfl (fun hs_ => PF.mks rfl (by intro c hc; cases hc) rfl rfl (by simp [undef]) hs_) ?_
                first | refine e_fl rfl rfl (fun hs_ => PF.mkg rfl rfl rfl (v_loadI0 ty42 (hate.mono Imm.leA) rfl rfl rfl) hs_) ?_ | refine e_fl rfl rfl (fun hs_ => PF.mkg rfl rfl rfl (v_loadI ty42 (hate.mono Imm.leA) rfl rfl rfl) hs_) ?_ | refine e_fl rfl rfl (fun hs_ => PF.mks rfl (by intro c hc; cases hc) rfl rfl (by simp [undef]) hs_) ?_
                first | refine e_fl rfl rfl (fun hs_ => PF.mkg rfl rfl rfl (v_len Try.underlying42 rfl) hs_) ?_ | refine e_fl rfl rfl (fun hs_ => PF.mks rfl (by intro c hc; cases hc) rfl rfl (by simp [undef]) hs_) ?_
                first | refine e_fl rfl rfl (fun hs_ => PF.mkg rfl rfl rfl (v_fieldB 0 Try.underlying41 rfl rfl fz3 rfl) hs_) ?_ | refine e_fl rfl rfl (fun hs_ => PF.mkg rfl rfl rfl (v_fieldI 0 Try.underlying41 rfl rfl fz3 rfl (by assumption)) hs_) ?_ | refine e_fl rfl rfl (fun hs_ => PF.mkg rfl rfl rfl (v_field Try.underlying41 rfl fz3 rfl rfl) hs_) ?_ | refine e_fl rfl rfl (fun hs_ => PF.mks rfl (by intro c hc; cases hc) rfl rfl (by simp [undef]) hs_) ?_
                first | refine e_fl rfl rfl (fun hs_ => PF.mkg rfl rfl rfl (v_loadA ty3 rfl rfl) hs_) ?_ | refine e_fl rfl rfl (fun hs_ => PF.mks rfl (by intro c hc; cases hc) rfl rfl (by simp [undef]) hs_) ?_
                first | refine e_fl rfl rfl (fun hs_ => PF.mkg rfl rfl rfl (v_move rfl) hs_) ?_ | refine e_fl rfl rfl (fun hs_ => PF.mks rfl (by intro c hc; cases hc) rfl rfl (by simp [undef]) hs_) ?_
                first | refine e_fl rfl rfl (fun hs_ => PF.mkg rfl rfl rfl (v_move rfl) hs_) ?_ | refine e_fl rfl rfl (fun hs_ => PF.mks rfl (by intro c hc; cases hc) rfl rfl (by simp [undef]) hs_) ?_
                first | refine e_fl rfl rfl (fun hs_ => PF.mkg rfl rfl rfl (v_indexA Try.underlying22 sz71 rfl rfl) hs_) ?_ | refine e_fl rfl rfl (fun hs_ => PF.mkg rfl rfl rfl (v_indexIA Try.underlying22 sz71 rfl rfl) hs_) ?_ | refine e_fl rfl rfl (fun hs_ => PF.mks rfl (by intro c hc; cases hc) rfl rfl (by simp [undef]) hs_) ?_
                first | refine e_fl rfl rfl (fun hs_ => PF.mkg rfl rfl rfl (v_fieldB 1 Try.underlying71 rfl rfl fz3 rfl) hs_) ?_ | refine e_fl rfl rfl (fun hs_ => PF.mkg rfl rfl rfl (v_fieldI 1 Try.underlying71 rfl rfl fz3 rfl (by assumption)) hs_) ?_ | refine e_fl rfl rfl (fun hs_ => PF.mkg rfl rfl rfl (v_field Try.underlying71 rfl fz3 rfl rfl) hs_) ?_ | refine e_fl rfl rfl (fun hs_ => PF.mks rfl (by intro c hc; cases hc) rfl rfl (by simp [undef]) hs_) ?_
                first | refine e_fl rfl rfl (fun hs_ => PF.mkg rfl rfl rfl (v_loadI0 ty3 ((hgat k hlt).mono Imm.leA) rfl rfl rfl) hs_) ?_ | refine e_fl rfl rfl (fun hs_ => PF.mkg rfl rfl rfl (v_loadI ty3 ((hgat k hlt).mono Imm.leA) rfl rfl rfl) hs_) ?_ | refine e_fl rfl rfl (fun hs_ => PF.mks rfl (by intro c hc; cases hc) rfl rfl (by simp [undef]) hs_) ?_
                refine e_eff rfl (by intro cs b hc; cases hc) (by intro c hc; cases hc) ?_
                first
                  | (refine op_want rfl rfl ?_
                     refine op_call pl62 rfl rfl ((power_does (s := w.size) (n := q) (by omega) (by omega) (by omega))) Parts.none ?_
                     rintro _ I62 _ hI62 ⟨rfl, rfl⟩)
                  | (refine op_skip rfl rfl (by simp [undef]) rfl ?_)
                refine ops_nil ?_
                refine e_next rfl side_allA ?_
                first | refine e_fl rfl rfl (fun hs_ => PF.mkg rfl rfl rfl (v_cmptA rfl rfl rfl) hs_) ?_ | refine e_fl rfl rfl (fun hs_ => PF.mkg rfl rfl rfl (v_cmpfA rfl rfl rfl) hs_) ?_ | refine e_fl rfl rfl (fun hs_ => PF.mkg rfl rfl rfl (v_cmp rfl rfl rfl) hs_) ?_ | refine e_fl rfl rfl (fun hs_ => PF.mks rfl (by intro c hc; cases hc) rfl rfl (by simp [undef]) hs_) ?_
                first | refine e_fl rfl rfl (fun hs_ => PF.mk rfl (v_pickt rfl rfl) hs_) ?_ | refine e_fl rfl rfl (fun hs_ => PF.mk rfl (v_pickf rfl rfl) hs_) ?_ | refine e_fl rfl rfl (fun hs_ => PF.mk rfl (v_pickb rfl rfl rfl) hs_) ?_
                refine e_done ?_
                refine post_next ?_
                refine code_cond_t rfl ?_
                refine code_seq ?_
                refine code_region ?_
                refine op_v (v_assign rfl) rfl ?_
                refine ops_nil ?_
                refine post_next ?_
                refine code_ret ?_
                refine post_ret_then ?_
                refine post_ret_block ?_
                refine post_ret_then ?_
                refine post_ret_then ?_
                refine post_ret_block ?_
                refine post_ret_then ?_
                refine post_ret (rs := [.tmp 4]) rfl (List.Perm.refl _) (.cons (.tmp rfl) .nil) (List.nil_sublist _) ?_
                exact ⟨⟨false, rfl, fun h => by cases h⟩, rfl⟩
              · obtain ⟨q, hq⟩ : ∃ q : Nat, gs[k].ar = q := ⟨gs[k].ar.toNat, by omega⟩
                first | refine e_fl rfl rfl (fun hs_ => PF.mk rfl (v_cmptA rfl rfl rfl) hs_) ?_ | refine e_fl rfl rfl (fun hs_ => PF.mk rfl (v_cmpfA rfl rfl rfl) hs_) ?_ | refine e_fl rfl rfl (fun hs_ => PF.mk rfl (v_cmp rfl rfl rfl) hs_) ?_
                refine e_fl rfl rfl (fun hs_ => PF.mk rfl (v_move rfl) hs_) ?_
                first | refine e_fl rfl rfl (fun hs_ => PF.mkg rfl rfl rfl (v_fieldB 1 Try.underlying41 rfl rfl fz39 rfl) hs_) ?_ | refine e_fl rfl rfl (fun hs_ => PF.mkg rfl rfl rfl (v_fieldI 1 Try.underlying41 rfl rfl fz39 rfl (by assumption)) hs_) ?_ | refine e_fl rfl rfl (fun hs_ => PF.mkg rfl rfl rfl (v_field Try.underlying41 rfl fz39 rfl rfl) hs_) ?_ | refine e_fl rfl rfl (fun hs_ => PF.mks rfl (by intro c hc; cases hc) rfl rfl (by simp [undef]) hs_) ?_
                first | refine e_fl rfl rfl (fun hs_ => PF.mkg rfl rfl rfl (v_loadA ty39 rfl rfl) hs_) ?_ | refine e_fl rfl rfl (fun hs_ => PF.mks rfl (by intro c hc; cases hc) rfl rfl (by simp [undef]) hs_) ?_
                first | refine e_fl rfl rfl (fun hs_ => PF.mkg rfl rfl rfl (v_move rfl) hs_) ?_ | refine e_fl rfl rfl (fun hs_ => PF.mks rfl (by intro c hc; cases hc) rfl rfl (by simp [undef]) hs_) ?_
                first | refine e_fl rfl rfl (fun hs_ => PF.mkg rfl rfl rfl (v_indexA Try.underlying39 sz42 rfl rfl) hs_) ?_ | refine e_fl rfl rfl (fun hs_ => PF.mkg rfl rfl rfl (v_indexIA Try.underlying39 sz42 rfl rfl) hs_) ?_ | refine e_fl rfl rfl (fun hs_ => PF.mks rfl (by intro c hc; cases hc) rfl rfl (by simp [undef]) hs_) ?_
                first | refine e_fl rfl rfl (fun hs_ => PF.mkg rfl rfl rfl (v_loadI0 ty42 (hate.mono Imm.leA) rfl rfl rfl) hs_) ?_ | refine e_fl rfl rfl (fun hs_ => PF.mkg rfl rfl rfl (v_loadI ty42 (hate.mono Imm.leA) rfl rfl rfl) hs_) ?_ | refine e_fl rfl rfl (fun hs_ => PF.mks rfl (by intro c hc; cases hc) rfl rfl (by simp [undef]) hs_) ?_
                first | refine e_fl rfl rfl (fun hs_ => PF.mkg rfl rfl rfl (v_len Try.underlying42 rfl) hs_) ?_ | refine e_fl rfl rfl (fun hs_ => PF.mks rfl (by intro c hc; cases hc) rfl rfl (by simp [undef]) hs_) ?_
                first | refine e_fl rfl rfl (fun hs_ => PF.mkg rfl rfl rfl (v_fieldB 0 Try.underlying41 rfl rfl fz3 rfl) hs_) ?_ | refine e_fl rfl rfl (fun hs_ => PF.mkg rfl rfl rfl (v_fieldI 0 Try.underlying41 rfl rfl fz3 rfl (by assumption)) hs_) ?_ | refine e_fl rfl rfl (fun hs_ => PF.mkg rfl rfl rfl (v_field Try.underlying41 rfl fz3 rfl rfl) hs_) ?_ | refine e_fl rfl rfl (fun hs_ => PF.mks rfl (by intro c hc; cases hc) rfl rfl (by simp [undef]) hs_) ?_
                first | refine e_fl rfl rfl (fun hs_ => PF.mkg rfl rfl rfl (v_loadA ty3 rfl rfl) hs_) ?_ | refine e_fl rfl rfl (fun hs_ => PF.mks rfl (by intro c hc; cases hc) rfl rfl (by simp [undef]) hs_) ?_
                first | refine e_fl rfl rfl (fun hs_ => PF.mkg rfl rfl rfl (v_move rfl) hs_) ?_ | refine e_fl rfl rfl (fun hs_ => PF.mks rfl (by intro c hc; cases hc) rfl rfl (by simp [undef]) hs_) ?_
                first | refine e_fl rfl rfl (fun hs_ => PF.mkg rfl rfl rfl (v_move rfl) hs_) ?_ | refine e_fl rfl rfl (fun hs_ => PF.mks rfl (by intro c hc; cases hc) rfl rfl (by simp [undef]) hs_) ?_
                first | refine e_fl rfl rfl (fun hs_ => PF.mkg rfl rfl rfl (v_indexA Try.underlying22 sz71 rfl rfl) hs_) ?_ | refine e_fl rfl rfl (fun hs_ => PF.mkg rfl rfl rfl (v_indexIA Try.underlying22 sz71 rfl rfl) hs_) ?_ | refine e_fl rfl rfl (fun hs_ => PF.mks rfl (by intro c hc; cases hc) rfl rfl (by simp [undef]) hs_) ?_
                first | refine e_fl rfl rfl (fun hs_ => PF.mkg rfl rfl rfl (v_fieldB 1 Try.underlying71 rfl rfl fz3 rfl) hs_) ?_ | refine e_fl rfl rfl (fun hs_ => PF.mkg rfl rfl rfl (v_fieldI 1 Try.underlying71 rfl rfl fz3 rfl (by assumption)) hs_) ?_ | refine e_fl rfl rfl (fun hs_ => PF.mkg rfl rfl rfl (v_field Try.underlying71 rfl fz3 rfl rfl) hs_) ?_ | refine e_fl rfl rfl (fun hs_ => PF.mks rfl (by intro c hc; cases hc) rfl rfl (by simp [undef]) hs_) ?_
                first | refine e_fl rfl rfl (fun hs_ => PF.mkg rfl rfl rfl (v_loadI0 ty3 ((hgat k hlt).mono Imm.leA) rfl rfl rfl) hs_) ?_ | refine e_fl rfl rfl (fun hs_ => PF.mkg rfl rfl rfl (v_loadI ty3 ((hgat k hlt).mono Imm.leA) rfl rfl rfl) hs_) ?_ | refine e_fl rfl rfl (fun hs_ => PF.mks rfl (by intro c hc; cases hc) rfl rfl (by simp [undef]) hs_) ?_
                refine e_eff rfl (by intro cs b hc; cases hc) (by intro c hc; cases hc) ?_
                rw [hq]
                first
                  | (refine op_want rfl rfl ?_
                     refine op_call pl62 rfl rfl ((power_does (s := w.size) (n := q) (by omega) (by omega) (by omega))) Parts.none ?_
                     rintro _ I62 _ hI62 ⟨rfl, rfl⟩)
                  | (refine op_skip rfl rfl (by simp [undef]) rfl ?_)
                refine ops_nil ?_
                refine e_next rfl side_allA ?_
                by_cases e6 : (row.length : Int) ≠ w.size ^ q
                · first | refine e_fl rfl rfl (fun hs_ => PF.mkg rfl rfl rfl (v_cmptA rfl rfl rfl) hs_) ?_ | refine e_fl rfl rfl (fun hs_ => PF.mkg rfl rfl rfl (v_cmpfA rfl rfl rfl) hs_) ?_ | refine e_fl rfl rfl (fun hs_ => PF.mkg rfl rfl rfl (v_cmp rfl rfl rfl) hs_) ?_ | refine e_fl rfl rfl (fun hs_ => PF.mks rfl (by intro c hc; cases hc) rfl rfl (by simp [undef]) hs_) ?_
                  first | refine e_fl rfl rfl (fun hs_ => PF.mk rfl (v_pickt rfl rfl) hs_) ?_ | refine e_fl rfl rfl (fun hs_ => PF.mk rfl (v_pickf rfl rfl) hs_) ?_ | refine e_fl rfl rfl (fun hs_ => PF.mk rfl (v_pickb rfl rfl rfl) hs_) ?_
                  refine e_done ?_
                  refine post_next ?_
                  refine code_cond_t rfl ?_
                  refine code_seq ?_
                  refine code_region ?_
                  refine op_v (v_assign rfl) rfl ?_
                  refine ops_nil ?_
                  refine post_next ?_
                  refine code_ret ?_
                  refine post_ret_then ?_
                  refine post_ret_block ?_
                  refine post_ret_then ?_
                  refine post_ret_then ?_
                  refine post_ret_block ?_
                  refine post_ret_then ?_
                  refine post_ret (rs := [.tmp 4]) rfl (List.Perm.refl _) (.cons (.tmp rfl) .nil) (List.nil_sublist _) ?_
                  exact ⟨⟨false, rfl, fun h => by cases h⟩, rfl⟩
                · have hre0 := (hre.mono (show I.le I62 from Imm.leA)).cells
                  first | refine e_fl rfl rfl (fun hs_ => PF.mkg rfl rfl rfl (v_cmptA rfl rfl rfl) hs_) ?_ | refine e_fl rfl rfl (fun hs_ => PF.mkg rfl rfl rfl (v_cmpfA rfl rfl rfl) hs_) ?_ | refine e_fl rfl rfl (fun hs_ => PF.mkg rfl rfl rfl (v_cmp rfl rfl rfl) hs_) ?_ | refine e_fl rfl rfl (fun hs_ => PF.mks rfl (by intro c hc; cases hc) rfl rfl (by simp [undef]) hs_) ?_
                  first | refine e_fl rfl rfl (fun hs_ => PF.mk rfl (v_pickt rfl rfl) hs_) ?_ | refine e_fl rfl rfl (fun hs_ => PF.mk rfl (v_pickf rfl rfl) hs_) ?_ | refine e_fl rfl rfl (fun hs_ => PF.mk rfl (v_pickb rfl rfl rfl) hs_) ?_
                  refine e_done ?_
                  refine post_next ?_
                  refine code_cond_f rfl ?_
                  refine code_skip ?_
                  refine post_next ?_
                  refine code_seq ?_
                  refine code_region ?_
                  refine op_v (v_assign rfl) rfl ?_
                  refine ops_nil ?_
                  refine post_next ?_
                  refine code_block ?_
                  refine code_loop (fun m σ' I' δ' => ∃ j : Nat, m = row.length - j ∧ j ≤ row.length ∧ σ' = [(0, .slice ga gs.length gc), (3, .pointer (some ⟨b3, 0, none⟩)), (5, .int .i64 k), (6, .int .i64 most), (7, .int .i64 j)] ∧ I62.le I' ∧ δ' = [.box b3 41 [.int .i64 w.size, .slice A w.rows.length c]] ∧ ∀ i (h : i < row.length), i < j → 0 ≤ row[i] ∧ row[i] < most) row.length [(0, .slice ga gs.length gc), (3, .pointer (some ⟨b3, 0, none⟩)), (5, .int .i64 k), (6, .int .i64 most), (7, .int .i64 (0 : Nat))] ⟨0, rfl, Nat.zero_le _, rfl, Imm.le_refl _, rfl, fun i _ h => by omega⟩ ⟨rfl, rfl, rfl, rfl, rfl, trivial⟩ ?_
                  rintro m _ I1 _ ⟨j, rfl, hj, rfl, hI1, rfl, hq2⟩
                  refine code_seq ?_
                  refine code_seq ?_
                  refine code_region ?_
                  refine op_v (v_move rfl) rfl ?_
                  first | refine op_v (v_fieldB 1 Try.underlying41 rfl rfl fz39 rfl) rfl ?_ | refine op_v (v_fieldI 1 Try.underlying41 rfl rfl fz39 rfl (by assumption)) rfl ?_ | refine op_v (v_field Try.underlying41 rfl fz39 rfl rfl) rfl ?_
                  refine op_v (v_loadA ty39 rfl rfl) rfl ?_
                  refine op_v (v_move rfl) rfl ?_
                  first | refine op_v (v_indexA Try.underlying39 sz42 rfl rfl) rfl ?_ | refine op_v (v_indexIA Try.underlying39 sz42 rfl rfl) rfl ?_
                  first | refine op_v (v_loadI0 ty42 (hate.mono Imm.leA) rfl rfl rfl) rfl ?_ | refine op_v (v_loadI ty42 (hate.mono Imm.leA) rfl rfl rfl) rfl ?_
                  refine op_v (v_len Try.underlying42 rfl) rfl ?_
                  first | refine op_v (v_cmptA rfl rfl rfl) rfl ?_ | refine op_v (v_cmpfA rfl rfl rfl) rfl ?_ | refine op_v (v_cmp rfl rfl rfl) rfl ?_
                  refine ops_nil ?_
                  refine post_next ?_
                  refine code_cond rfl (fun hc4 => ?_) (fun hc4 => ?_)
                  · have hltj : j < row.length := by simpa using hc4
                    have hs3 := ints_some hre0 j hltj
                    refine code_skip ?_
                    refine post_next ?_
                    refine code_seq ?_
                    refine code_block ?_
                    refine code_seq ?_
                    refine code_region ?_
                    first | refine op_v (v_fieldB 1 Try.underlying41 rfl rfl fz39 rfl) rfl ?_ | refine op_v (v_fieldI 1 Try.underlying41 rfl rfl fz39 rfl (by assumption)) rfl ?_ | refine op_v (v_field Try.underlying41 rfl fz39 rfl rfl) rfl ?_
                    refine op_v (v_loadA ty39 rfl rfl) rfl ?_
                    refine op_v (v_move rfl) rfl ?_
                    first | refine op_v (v_indexA Try.underlying39 sz42 rfl rfl) rfl ?_ | refine op_v (v_indexIA Try.underlying39 sz42 rfl rfl) rfl ?_
                    first | refine op_v (v_loadI0 ty42 (hate.mono Imm.leA) rfl rfl rfl) rfl ?_ | refine op_v (v_loadI ty42 (hate.mono Imm.leA) rfl rfl rfl) rfl ?_
                    refine op_v (v_move rfl) rfl ?_
                    first | refine op_v (v_indexA Try.underlying42 sz3 rfl rfl) rfl ?_ | refine op_v (v_indexIA Try.underlying42 sz3 rfl rfl) rfl ?_
                    first | refine op_v (v_loadI0 ty3 ((ints_at hre0 j hltj).mono Imm.leA) rfl rfl rfl) rfl ?_ | refine op_v (v_loadI ty3 ((ints_at hre0 j hltj).mono Imm.leA) rfl rfl rfl) rfl ?_
                    by_cases e7 : row[j] < 0
                    · first | refine op_v (v_cmptA rfl rfl rfl) rfl ?_ | refine op_v (v_cmpfA rfl rfl rfl) rfl ?_ | refine op_v (v_cmp rfl rfl rfl) rfl ?_
                      refine op_v (v_move rfl) rfl ?_
                      first
                        | (refine op_want rfl rfl ?_
                           first | refine op_v (v_fieldB 1 Try.underlying41 rfl rfl fz39 rfl) rfl ?_ | refine op_v (v_fieldI 1 Try.underlying41 rfl rfl fz39 rfl (by assumption)) rfl ?_ | refine op_v (v_field Try.underlying41 rfl fz39 rfl rfl) rfl ?_)
                        | (refine op_skip rfl rfl (by simp [undef]) rfl ?_)
                      first
                        | (refine op_want rfl rfl ?_
                           refine op_v (v_loadA ty39 rfl rfl) rfl ?_)
                        | (refine op_skip rfl rfl (by simp [undef]) rfl ?_)
                      first
                        | (refine op_want rfl rfl ?_
                           refine op_v (v_move rfl) rfl ?_)
                        | (refine op_skip rfl rfl (by simp [undef]) rfl ?_)
                      first
                        | (refine op_want rfl rfl ?_
                           first | refine op_v (v_indexA Try.underlying39 sz42 rfl rfl) rfl ?_ | refine op_v (v_indexIA Try.underlying39 sz42 rfl rfl) rfl ?_)
                        | (refine op_skip rfl rfl (by simp [undef]) rfl ?_)
                      first
                        | (refine op_want rfl rfl ?_
                           first | refine op_v (v_loadI0 ty42 (hate.mono Imm.leA) rfl rfl rfl) rfl ?_ | refine op_v (v_loadI ty42 (hate.mono Imm.leA) rfl rfl rfl) rfl ?_)
                        | (refine op_skip rfl rfl (by simp [undef]) rfl ?_)
                      first
                        | (refine op_want rfl rfl ?_
                           refine op_v (v_move rfl) rfl ?_)
                        | (refine op_skip rfl rfl (by simp [undef]) rfl ?_)
                      first
                        | (refine op_want rfl rfl ?_
                           first | refine op_v (v_indexA Try.underlying42 sz3 rfl rfl) rfl ?_ | refine op_v (v_indexIA Try.underlying42 sz3 rfl rfl) rfl ?_)
                        | (refine op_skip rfl rfl (by simp [undef]) rfl ?_)
                      first
                        | (refine op_want rfl rfl ?_
                           first | refine op_v (v_loadI0 ty3 ((ints_at hre0 j hltj).mono Imm.leA) rfl rfl rfl) rfl ?_ | refine op_v (v_loadI ty3 ((ints_at hre0 j hltj).mono Imm.leA) rfl rfl rfl) rfl ?_)
                        | (refine op_skip rfl rfl (by simp [undef]) rfl ?_)
                      first
                        | (refine op_want rfl rfl ?_
                           refine op_v (v_move rfl) rfl ?_)
                        | (refine op_skip rfl rfl (by simp [undef]) rfl ?_)
                      first
                        | (refine op_want rfl rfl ?_
                           first | refine op_v (v_cmptA rfl rfl rfl) rfl ?_ | refine op_v (v_cmpfA rfl rfl rfl) rfl ?_ | refine op_v (v_cmp rfl rfl rfl) rfl ?_)
                        | (refine op_skip rfl rfl (by simp [undef]) rfl ?_)
                      first | refine op_v (v_pickt rfl rfl) rfl ?_ | refine op_v (v_pickf rfl rfl) rfl ?_ | refine op_v (v_pickb rfl rfl rfl) rfl ?_
                      refine ops_nil ?_
                      refine post_next ?_
                      refine code_cond_t rfl ?_
                      refine code_seq ?_
                      refine code_region ?_
                      refine op_v (v_assign rfl) rfl ?_
                      refine ops_nil ?_
                      refine post_next ?_
                      refine code_ret ?_
                      refine post_ret_block ?_
                      refine post_ret_then ?_
                      refine post_ret_then ?_
                      refine post_ret_block ?_
                      refine post_ret_block ?_
                      refine post_ret_then ?_
                      refine post_ret_then ?_
                      refine post_ret_block ?_
                      refine post_ret_then ?_
                      refine post_ret (rs := [.tmp 4]) rfl (List.Perm.refl _) (.cons (.tmp rfl) .nil) (List.nil_sublist _) ?_
                      exact ⟨⟨false, rfl, fun h => by cases h⟩, rfl⟩
                    · first | refine op_v (v_cmptA rfl rfl rfl) rfl ?_ | refine op_v (v_cmpfA rfl rfl rfl) rfl ?_ | refine op_v (v_cmp rfl rfl rfl) rfl ?_
                      refine op_v (v_move rfl) rfl ?_
                      first
                        | (refine op_want rfl rfl ?_
                           first | refine op_v (v_fieldB 1 Try.underlying41 rfl rfl fz39 rfl) rfl ?_ | refine op_v (v_fieldI 1 Try.underlying41 rfl rfl fz39 rfl (by assumption)) rfl ?_ | refine op_v (v_field Try.underlying41 rfl fz39 rfl rfl) rfl ?_)
                        | (refine op_skip rfl rfl (by simp [undef]) rfl ?_)
                      first
                        | (refine op_want rfl rfl ?_
                           refine op_v (v_loadA ty39 rfl rfl) rfl ?_)
                        | (refine op_skip rfl rfl (by simp [undef]) rfl ?_)
                      first
                        | (refine op_want rfl rfl ?_
                           refine op_v (v_move rfl) rfl ?_)
                        | (refine op_skip rfl rfl (by simp [undef]) rfl ?_)
                      first
                        | (refine op_want rfl rfl ?_
                           first | refine op_v (v_indexA Try.underlying39 sz42 rfl rfl) rfl ?_ | refine op_v (v_indexIA Try.underlying39 sz42 rfl rfl) rfl ?_)
                        | (refine op_skip rfl rfl (by simp [undef]) rfl ?_)
                      first
                        | (refine op_want rfl rfl ?_
                           first | refine op_v (v_loadI0 ty42 (hate.mono Imm.leA) rfl rfl rfl) rfl ?_ | refine op_v (v_loadI ty42 (hate.mono Imm.leA) rfl rfl rfl) rfl ?_)
                        | (refine op_skip rfl rfl (by simp [undef]) rfl ?_)
                      first
                        | (refine op_want rfl rfl ?_
                           refine op_v (v_move rfl) rfl ?_)
                        | (refine op_skip rfl rfl (by simp [undef]) rfl ?_)
                      first
                        | (refine op_want rfl rfl ?_
                           first | refine op_v (v_indexA Try.underlying42 sz3 rfl rfl) rfl ?_ | refine op_v (v_indexIA Try.underlying42 sz3 rfl rfl) rfl ?_)
                        | (refine op_skip rfl rfl (by simp [undef]) rfl ?_)
                      first
                        | (refine op_want rfl rfl ?_
                           first | refine op_v (v_loadI0 ty3 ((ints_at hre0 j hltj).mono Imm.leA) rfl rfl rfl) rfl ?_ | refine op_v (v_loadI ty3 ((ints_at hre0 j hltj).mono Imm.leA) rfl rfl rfl) rfl ?_)
                        | (refine op_skip rfl rfl (by simp [undef]) rfl ?_)
                      first
                        | (refine op_want rfl rfl ?_
                           refine op_v (v_move rfl) rfl ?_)
                        | (refine op_skip rfl rfl (by simp [undef]) rfl ?_)
                      by_cases e8 : most ≤ row[j]
                      · first
                          | (refine op_want rfl rfl ?_
                             first | refine op_v (v_cmptA rfl rfl rfl) rfl ?_ | refine op_v (v_cmpfA rfl rfl rfl) rfl ?_ | refine op_v (v_cmp rfl rfl rfl) rfl ?_)
                          | (refine op_skip rfl rfl (by simp [undef]) rfl ?_)
                        first | refine op_v (v_pickt rfl rfl) rfl ?_ | refine op_v (v_pickf rfl rfl) rfl ?_ | refine op_v (v_pickb rfl rfl rfl) rfl ?_
                        refine ops_nil ?_
                        refine post_next ?_
                        refine code_cond_t rfl ?_
                        refine code_seq ?_
                        refine code_region ?_
                        refine op_v (v_assign rfl) rfl ?_
                        refine ops_nil ?_
                        refine post_next ?_
                        refine code_ret ?_
                        refine post_ret_block ?_
                        refine post_ret_then ?_
                        refine post_ret_then ?_
                        refine post_ret_block ?_
                        refine post_ret_block ?_
                        refine post_ret_then ?_
                        refine post_ret_then ?_
                        refine post_ret_block ?_
                        refine post_ret_then ?_
                        refine post_ret (rs := [.tmp 4]) rfl (List.Perm.refl _) (.cons (.tmp rfl) .nil) (List.nil_sublist _) ?_
                        exact ⟨⟨false, rfl, fun h => by cases h⟩, rfl⟩
                      · first
                          | (refine op_want rfl rfl ?_
                             first | refine op_v (v_cmptA rfl rfl rfl) rfl ?_ | refine op_v (v_cmpfA rfl rfl rfl) rfl ?_ | refine op_v (v_cmp rfl rfl rfl) rfl ?_)
                          | (refine op_skip rfl rfl (by simp [undef]) rfl ?_)
                        first | refine op_v (v_pickt rfl rfl) rfl ?_ | refine op_v (v_pickf rfl rfl) rfl ?_ | refine op_v (v_pickb rfl rfl rfl) rfl ?_
                        refine ops_nil ?_
                        refine post_next ?_
                        refine code_cond_f rfl ?_
                        refine code_skip ?_
                        refine post_out ?_
                        refine post_next ?_
                        refine code_region ?_
                        refine op_v (v_move rfl) rfl ?_
                        first | refine op_v (v_addb rfl rfl rfl (by omega)) rfl ?_ | refine op_v (v_add rfl rfl) rfl ?_
                        refine op_v (v_assign rfl) rfl ?_
                        refine ops_nil ?_
                        refine post_again (row.length - (j + 1)) [(0, .slice ga gs.length gc), (3, .pointer (some ⟨b3, 0, none⟩)), (5, .int .i64 k), (6, .int .i64 most), (7, .int .i64 (j + 1 : Nat))] (by omega) ⟨j + 1, rfl, hltj, rfl, Imm.leA, rfl, fun i h hi => ?_⟩ ⟨rfl, rfl, rfl, rfl, rfl, trivial⟩
                        rcases Nat.lt_or_ge i j with hik | hik
                        · exact hq2 i h hik
                        have hik2 : i = j := by omega
                        subst hik2
                        exact ⟨by omega, by omega⟩
                  · have hgej : j = row.length := by simp at hc4; omega
                    refine code_exit ?_
                    refine post_exit_then ?_
                    refine post_exit_then ?_
                    refine post_exit ?_
                    refine post_out ?_
                    refine post_next ?_
                    refine code_region ?_
                    refine op_v (v_move rfl) rfl ?_
                    first | refine op_v (v_addb rfl rfl rfl (by omega)) rfl ?_ | refine op_v (v_add rfl rfl) rfl ?_
                    refine op_v (v_assign rfl) rfl ?_
                    refine ops_nil ?_
                    refine post_again (gs.length - (k + 1)) [(0, .slice ga gs.length gc), (3, .pointer (some ⟨b3, 0, none⟩)), (5, .int .i64 (k + 1 : Nat))] (by omega) ⟨k + 1, rfl, hlt, rfl, Imm.leA, rfl, fun i h hi => ?_⟩ ⟨rfl, rfl, rfl, trivial⟩
                    rcases Nat.lt_or_ge i k with hik | hik
                    · exact hp i h hik
                    have hik2 : i = k := by omega
                    subst hik2
                    refine ⟨by omega, by rw [hrow, hq]; simpa using e6, fun x hx => ?_⟩
                    rw [hrow] at hx
                    obtain ⟨n, hn, rfl⟩ := List.getElem_of_mem hx
                    have h8 := hq2 n hn (by omega)
                    exact ⟨h8.1, fun ht => by rw [← hmost ht]; exact h8.2⟩
          · have hge : k = gs.length := by simp at hc1; omega
            refine code_exit ?_
            refine post_exit_then ?_
            refine post_exit_then ?_
            refine post_exit ?_
            refine post_next ?_
            refine code_seq ?_
            refine code_region ?_
            have hl0 : 0 < w.rows.length := by omega
            obtain ⟨ed, ec, hate, hre⟩ := hat 0 hl0
            have hs2 := hate.isSome
            have h00 := hp 0 (by omega) (by omega)
            have har1 := right_ar e1 0 (by omega)
            have hpb := pow_bound (s := w.size) (by omega) (by omega) (gs[0]'(by omega)).ar.toNat (by omega)
            have hl1 : 0 < (w.rows[0]'hl0).length := by omega
            have hs3 := ints_some hre.cells 0 hl1
            first | refine op_v (v_fieldB 1 Try.underlying41 rfl rfl fz39 rfl) rfl ?_ | refine op_v (v_fieldI 1 Try.underlying41 rfl rfl fz39 rfl (by assumption)) rfl ?_ | refine op_v (v_field Try.underlying41 rfl fz39 rfl rfl) rfl ?_
            refine op_v (v_loadA ty39 rfl rfl) rfl ?_
            first | refine op_v (v_indexA Try.underlying39 sz42 rfl rfl) rfl ?_ | refine op_v (v_indexIA Try.underlying39 sz42 rfl rfl) rfl ?_
            refine op_v (v_loadI0 (m := 0) ty42 (by have := hate.mono (show I.le I0 from Imm.leA); simpa using this) rfl rfl rfl) rfl ?_
            first | refine op_v (v_indexA Try.underlying42 sz3 rfl rfl) rfl ?_ | refine op_v (v_indexIA Try.underlying42 sz3 rfl rfl) rfl ?_
            refine op_v (v_loadI0 (m := 0) ty3 (by have := (ints_at hre.cells 0 hl1).mono (show I.le I0 from Imm.leA); simpa using this) rfl rfl rfl) rfl ?_
            first | refine op_v (v_cmptA rfl rfl rfl) rfl ?_ | refine op_v (v_cmpfA rfl rfl rfl) rfl ?_ | refine op_v (v_cmp rfl rfl rfl) rfl ?_
            refine op_v (v_assign rfl) rfl ?_
            refine ops_nil ?_
            refine post_next ?_
            refine code_ret ?_
            refine post_ret (rs := [.tmp 4]) rfl (List.Perm.refl _) (.cons (.tmp rfl) .nil) (List.nil_sublist _) ?_
            exact ⟨⟨_, rfl, fun _ => ⟨by omega, by omega, hlr, fun i h => hp i h (by omega)⟩⟩, rfl⟩
  · have e1' : rightG gs = false := by simpa using e1
    rw [e1']
    refine op_v (v_not rfl) rfl ?_
    refine op_v (v_move rfl) rfl ?_
    first
      | (refine op_want rfl rfl ?_
         first | refine op_v (v_fieldB 0 Try.underlying41 rfl rfl fz3 rfl) rfl ?_ | refine op_v (v_fieldI 0 Try.underlying41 rfl rfl fz3 rfl (by assumption)) rfl ?_ | refine op_v (v_field Try.underlying41 rfl fz3 rfl rfl) rfl ?_)
      | (refine op_skip rfl rfl (by simp [undef]) rfl ?_)
    first
      | (refine op_want rfl rfl ?_
         refine op_v (v_loadA ty3 rfl rfl) rfl ?_)
      | (refine op_skip rfl rfl (by simp [undef]) rfl ?_)
    first
      | (refine op_want rfl rfl ?_
         first | refine op_v (v_cmptA rfl rfl rfl) rfl ?_ | refine op_v (v_cmpfA rfl rfl rfl) rfl ?_ | refine op_v (v_cmp rfl rfl rfl) rfl ?_)
      | (refine op_skip rfl rfl (by simp [undef]) rfl ?_)
    first | refine op_v (v_pickt rfl rfl) rfl ?_ | refine op_v (v_pickf rfl rfl) rfl ?_ | refine op_v (v_pickb rfl rfl rfl) rfl ?_
    refine op_v (v_move rfl) rfl ?_
    first
      | (refine op_want rfl rfl ?_
         first | refine op_v (v_fieldB 0 Try.underlying41 rfl rfl fz3 rfl) rfl ?_ | refine op_v (v_fieldI 0 Try.underlying41 rfl rfl fz3 rfl (by assumption)) rfl ?_ | refine op_v (v_field Try.underlying41 rfl fz3 rfl rfl) rfl ?_)
      | (refine op_skip rfl rfl (by simp [undef]) rfl ?_)
    first
      | (refine op_want rfl rfl ?_
         refine op_v (v_loadA ty3 rfl rfl) rfl ?_)
      | (refine op_skip rfl rfl (by simp [undef]) rfl ?_)
    first
      | (refine op_want rfl rfl ?_
         first | refine op_v (v_cmptA rfl rfl rfl) rfl ?_ | refine op_v (v_cmpfA rfl rfl rfl) rfl ?_ | refine op_v (v_cmp rfl rfl rfl) rfl ?_)
      | (refine op_skip rfl rfl (by simp [undef]) rfl ?_)
    first | refine op_v (v_pickt rfl rfl) rfl ?_ | refine op_v (v_pickf rfl rfl) rfl ?_ | refine op_v (v_pickb rfl rfl rfl) rfl ?_
    refine op_v (v_move rfl) rfl ?_
    first
      | (refine op_want rfl rfl ?_
         first | refine op_v (v_fieldB 1 Try.underlying41 rfl rfl fz39 rfl) rfl ?_ | refine op_v (v_fieldI 1 Try.underlying41 rfl rfl fz39 rfl (by assumption)) rfl ?_ | refine op_v (v_field Try.underlying41 rfl fz39 rfl rfl) rfl ?_)
      | (refine op_skip rfl rfl (by simp [undef]) rfl ?_)
    first
      | (refine op_want rfl rfl ?_
         refine op_v (v_loadA ty39 rfl rfl) rfl ?_)
      | (refine op_skip rfl rfl (by simp [undef]) rfl ?_)
    first
      | (refine op_want rfl rfl ?_
         refine op_v (v_len Try.underlying39 rfl) rfl ?_)
      | (refine op_skip rfl rfl (by simp [undef]) rfl ?_)
    first
      | (refine op_want rfl rfl ?_
         refine op_v (v_move rfl) rfl ?_)
      | (refine op_skip rfl rfl (by simp [undef]) rfl ?_)
    first
      | (refine op_want rfl rfl ?_
         refine op_v (v_len Try.underlying22 rfl) rfl ?_)
      | (refine op_skip rfl rfl (by simp [undef]) rfl ?_)
    first
      | (refine op_want rfl rfl ?_
         first | refine op_v (v_cmptA rfl rfl rfl) rfl ?_ | refine op_v (v_cmpfA rfl rfl rfl) rfl ?_ | refine op_v (v_cmp rfl rfl rfl) rfl ?_)
      | (refine op_skip rfl rfl (by simp [undef]) rfl ?_)
    first | refine op_v (v_pickt rfl rfl) rfl ?_ | refine op_v (v_pickf rfl rfl) rfl ?_ | refine op_v (v_pickb rfl rfl rfl) rfl ?_
    refine ops_nil ?_
    refine post_next ?_
    refine code_cond_t rfl ?_
    refine code_seq ?_
    refine code_region ?_
    refine op_v (v_assign rfl) rfl ?_
    refine ops_nil ?_
    refine post_next ?_
    refine code_ret ?_
    refine post_ret_then ?_
    refine post_ret (rs := [.tmp 4]) rfl (List.Perm.refl _) (.cons (.tmp rfl) .nil) (List.nil_sublist _) ?_
    exact ⟨⟨false, rfl, fun h => by cases h⟩, rfl⟩
end Go.Proofs.Ytegceppoioeeaaa
