/- Own texts, one behind the other: rules of a small program logic, walks through the program's functions, plain facts. No condition. -/
import Derived.Test.YtdbadicpbmndbaaZ4
import Derived.WalkKit
import Derived.ProofKit
import Derived.OpenShut
import Derived.ShutString
import Derived.ChangeOld
import Derived.ChangeSlices
import Derived.Below
import Derived.Carry
import Derived.SizedLaws
/- Walks: literals in worlds; the statement. -/
set_option linter.unusedVariables false
set_option linter.unusedSimpArgs false
set_option linter.unnecessarySimpa false
/- short -/
namespace Go.Proofs.Ytdbadicpbmndbaa
open Go Lg

theorem WRight_does {I : Imm} {vg v : Value} {gs : List Sy} {w : Wd} (hg : RepG I vg gs) (hw : RepW I v w) :
    Does Try.prog 19 [vg, v] I [] (fun v _ δ' => (∃ b, v = .bool b ∧ (b = true → WR gs w)) ∧ δ' = []) := by
  obtain ⟨A, c, rfl, hlen, hat⟩ := hw.open
  obtain ⟨ga, gc, rfl⟩ := hg.shape
  obtain ⟨_, hgc, hgb, hgat, hgok⟩ := hg.open
  refine Does.intro Try.func19 rfl Try.ntmps19 rfl fun w0 => ?_
  refine code_seq ?_
  refine code_region ?_
  refine o_box rfl rfl rfl (fun b3 => ?_)
  refine op_v (v_assign rfl) rfl ?_
  refine ops_nil ?_
  refine post_next ?_
  refine code_seq ?_
  refine code_seq ?_
  refine code_region ?_
  refine op_v (v_move rfl) rfl ?_
  refine op_call pl64 rfl rfl ((RightR_does (hg.mono Imm.leA))) Parts.none ?_
  rintro _ I9 _ hI9 ⟨rfl, rfl⟩
  by_cases e1 : rightG gs = true
  · rw [e1]
    have hgl := rightG_len e1
    refine op_v (v_not rfl) rfl ?_
    refine op_v (v_move rfl) rfl ?_
    first
      | (refine op_want rfl rfl ?_
         refine op_v (v_fieldB 0 Try.underlying25 rfl rfl fz3 rfl) rfl ?_)
      | (refine op_skip rfl rfl (by simp [undef]) rfl ?_)
    refine op_want rfl rfl ?_
    refine op_v (v_loadA ty3 rfl rfl) rfl ?_
    by_cases e2 : w.size < 1
    · first
        | (refine op_want rfl rfl ?_
           refine op_v (v_cmptA rfl rfl rfl) rfl ?_)
        | (refine op_skip rfl rfl (by simp [undef]) rfl ?_)
      refine op_v (v_pickf rfl rfl) rfl ?_
      refine op_v (v_move rfl) rfl ?_
      refine op_skip rfl rfl (by simp [undef]) rfl ?_
      refine op_skip rfl rfl (by simp [undef]) rfl ?_
      refine op_skip rfl rfl (by simp [undef]) rfl ?_
      refine op_v (v_pickt rfl rfl) rfl ?_
      refine op_v (v_move rfl) rfl ?_
      refine op_skip rfl rfl (by simp [undef]) rfl ?_
      refine op_skip rfl rfl (by simp [undef]) rfl ?_
      refine op_skip rfl rfl (by simp [undef]) rfl ?_
      refine op_skip rfl rfl (by simp [undef]) rfl ?_
      refine op_skip rfl rfl (by simp [undef]) rfl ?_
      refine op_skip rfl rfl (by simp [undef]) rfl ?_
      refine op_v (v_pickt rfl rfl) rfl ?_
      refine ops_nil ?_
      refine post_next ?_
      refine code_cond_t rfl ?_
      refine code_seq ?_
      refine code_region ?_
      refine op_v (v_assign rfl) rfl ?_
      refine ops_nil ?_
      refine post_next ?_
      refine code_ret ?_
      refine post_ret_then ?_
      refine post_ret (rs := [.tmp 4]) rfl (List.Perm.refl _) (.cons (.tmp rfl) .nil) (List.nil_sublist _) ?_
      exact ⟨⟨false, rfl, fun h => by cases h⟩, rfl⟩
    · first
        | (refine op_want rfl rfl ?_
           refine op_v (v_cmpfA rfl rfl rfl) rfl ?_)
        | (refine op_skip rfl rfl (by simp [undef]) rfl ?_)
      refine op_v (v_pickf rfl rfl) rfl ?_
      refine op_v (v_move rfl) rfl ?_
      first
        | (refine op_want rfl rfl ?_
           refine op_v (v_fieldB 0 Try.underlying25 rfl rfl fz3 rfl) rfl ?_)
        | (refine op_skip rfl rfl (by simp [undef]) rfl ?_)
      refine op_want rfl rfl ?_
      refine op_v (v_loadA ty3 rfl rfl) rfl ?_
      by_cases e3 : 4 < w.size
      · first
          | (refine op_want rfl rfl ?_
             refine op_v (v_cmptA rfl rfl rfl) rfl ?_)
          | (refine op_skip rfl rfl (by simp [undef]) rfl ?_)
        refine op_v (v_pickf rfl rfl) rfl ?_
        refine op_v (v_move rfl) rfl ?_
        refine op_skip rfl rfl (by simp [undef]) rfl ?_
        refine op_skip rfl rfl (by simp [undef]) rfl ?_
        refine op_skip rfl rfl (by simp [undef]) rfl ?_
        refine op_skip rfl rfl (by simp [undef]) rfl ?_
        refine op_skip rfl rfl (by simp [undef]) rfl ?_
        refine op_skip rfl rfl (by simp [undef]) rfl ?_
        refine op_v (v_pickt rfl rfl) rfl ?_
        refine ops_nil ?_
        refine post_next ?_
        refine code_cond_t rfl ?_
        refine code_seq ?_
        refine code_region ?_
        refine op_v (v_assign rfl) rfl ?_
        refine ops_nil ?_
        refine post_next ?_
        refine code_ret ?_
        refine post_ret_then ?_
        refine post_ret (rs := [.tmp 4]) rfl (List.Perm.refl _) (.cons (.tmp rfl) .nil) (List.nil_sublist _) ?_
        exact ⟨⟨false, rfl, fun h => by cases h⟩, rfl⟩
      · first
          | (refine op_want rfl rfl ?_
             refine op_v (v_cmpfA rfl rfl rfl) rfl ?_)
          | (refine op_skip rfl rfl (by simp [undef]) rfl ?_)
        refine op_v (v_pickf rfl rfl) rfl ?_
        refine op_v (v_move rfl) rfl ?_
        first
          | (refine op_want rfl rfl ?_
             refine op_v (v_fieldB 1 Try.underlying25 rfl rfl fz23 rfl) rfl ?_)
          | (refine op_skip rfl rfl (by simp [undef]) rfl ?_)
        refine op_want rfl rfl ?_
        refine op_v (v_loadA ty23 rfl rfl) rfl ?_
        refine op_want rfl rfl ?_
        refine op_v (v_len Try.underlying23 rfl) rfl ?_
        refine op_want rfl rfl ?_
        refine op_v (v_move rfl) rfl ?_
        refine op_want rfl rfl ?_
        refine op_v (v_len Try.underlying22 rfl) rfl ?_
        by_cases e4 : (w.rows.length : Int) ≠ gs.length
        · first
            | (refine op_want rfl rfl ?_
               refine op_v (v_cmptA rfl rfl rfl) rfl ?_)
            | (refine op_skip rfl rfl (by simp [undef]) rfl ?_)
          refine op_v (v_pickf rfl rfl) rfl ?_
          refine ops_nil ?_
          refine post_next ?_
          refine code_cond_t rfl ?_
          refine code_seq ?_
          refine code_region ?_
          refine op_v (v_assign rfl) rfl ?_
          refine ops_nil ?_
          refine post_next ?_
          refine code_ret ?_
          refine post_ret_then ?_
          refine post_ret (rs := [.tmp 4]) rfl (List.Perm.refl _) (.cons (.tmp rfl) .nil) (List.nil_sublist _) ?_
          exact ⟨⟨false, rfl, fun h => by cases h⟩, rfl⟩
        · have hlr : w.rows.length = gs.length := by omega
          first
            | (refine op_want rfl rfl ?_
               refine op_v (v_cmpfA rfl rfl rfl) rfl ?_)
            | (refine op_skip rfl rfl (by simp [undef]) rfl ?_)
          refine op_v (v_pickf rfl rfl) rfl ?_
          refine ops_nil ?_
          refine post_next ?_
          refine code_cond_f rfl ?_
          refine code_skip ?_
          refine post_next ?_
          refine code_seq ?_
          refine code_seq ?_
          refine code_region ?_
          refine op_v (v_assign rfl) rfl ?_
          refine ops_nil ?_
          refine post_next ?_
          refine code_block ?_
          refine code_loop (fun m σ' I' δ' => ∃ k : Nat, m = gs.length - k ∧ k ≤ gs.length ∧ σ' = [(0, .slice ga gs.length gc), (3, .pointer (some ⟨b3, 0, none⟩)), (5, .int .i64 k)] ∧ I.le I' ∧ δ' = [.box b3 25 [.int .i64 w.size, .slice A w.rows.length c]] ∧ ∀ i (h : i < gs.length), i < k → gs[i].ar ≤ 4 ∧ ((w.rows[i]'(by omega)).length : Int) = w.size ^ gs[i].ar.toNat ∧ ∀ x ∈ w.rows[i]'(by omega), 0 ≤ x ∧ (gs[i].tr = false → x < w.size)) gs.length [(0, .slice ga gs.length gc), (3, .pointer (some ⟨b3, 0, none⟩)), (5, .int .i64 (0 : Nat))] ⟨0, rfl, Nat.zero_le _, rfl, Imm.leA, rfl, fun i _ h => by omega⟩ ⟨rfl, rfl, rfl, trivial⟩ ?_
          rintro m _ I0 _ ⟨k, rfl, hk, rfl, hI0, rfl, hp⟩
          refine code_seq ?_
          refine code_seq ?_
          refine code_region ?_
          refine op_v (v_move rfl) rfl ?_
          refine op_v (v_move rfl) rfl ?_
          refine op_v (v_len Try.underlying22 rfl) rfl ?_
          refine op_v (v_cmp rfl rfl rfl) rfl ?_
          refine ops_nil ?_
          refine post_next ?_
          refine code_cond rfl (fun hc1 => ?_) (fun hc1 => ?_)
          · have hlt : k < gs.length := by simpa using hc1
            have hs1 := (hgat k hlt).isSome
            have har0 := right_ar e1 k hlt
            obtain ⟨ed, ec, hate, hre⟩ := hat k (by omega)
            have hs2 := hate.isSome
            have hrl := hre
            generalize hrow : w.rows[k]'(by omega) = row at hate hre hrl
            have hrl2 := hrl.len
            refine code_skip ?_
            refine post_next ?_
            refine code_seq ?_
            refine code_block ?_
            refine code_seq ?_
            refine code_region ?_
            refine op_v (v_fieldB 0 Try.underlying25 rfl rfl fz3 rfl) rfl ?_
            refine op_v (v_loadA ty3 rfl rfl) rfl ?_
            refine op_v (v_assign rfl) rfl ?_
            refine ops_nil ?_
            refine post_next ?_
            refine code_seq_meet (fun σ' I' δ' => ∃ most : Int, σ' = [(0, .slice ga gs.length gc), (3, .pointer (some ⟨b3, 0, none⟩)), (5, .int .i64 k), (6, .int .i64 most)] ∧ I0 = I' ∧ δ' = [.box b3 25 [.int .i64 w.size, .slice A w.rows.length c]] ∧ (gs[k].tr = false → most = w.size)) ?_ ?_
            · refine code_seq ?_
              refine code_region ?_
              refine op_v (v_move rfl) rfl ?_
              refine op_v (v_move rfl) rfl ?_
              refine op_v (v_indexA Try.underlying22 sz79 rfl rfl) rfl ?_
              refine op_v (v_fieldI 3 Try.underlying79 rfl rfl fz4 rfl (by assumption)) rfl ?_
              refine op_v (v_loadI ty4 ((hgat k hlt).mono Imm.leA) rfl rfl rfl) rfl ?_
              refine ops_nil ?_
              refine post_next ?_
              refine code_cond rfl (fun hc2 => ?_) (fun hc2 => ?_)
              · have htr : gs[k].tr = true := hc2
                refine code_region ?_
                refine op_v (v_assign rfl) rfl ?_
                refine ops_nil ?_
                refine post_meet _ ⟨2, rfl, rfl, rfl, fun h => by rw [htr] at h; cases h⟩ ⟨rfl, rfl, rfl, rfl, trivial⟩
              · have htr : gs[k].tr = false := hc2
                refine code_skip ?_
                refine post_meet _ ⟨w.size, rfl, rfl, rfl, fun _ => rfl⟩ ⟨rfl, rfl, rfl, rfl, trivial⟩
            · rintro _ _ _ ⟨most, rfl, rfl, rfl, hmost⟩
              refine code_seq ?_
              refine code_seq ?_
              refine code_draw (.fl 0 (.fl 1 (.fl 2 (.fl 3 (.fl 4 (.fl 5 (.fl 6 (.fl 7 (.fl 8 (.fl 9 (.fl 10 (.fl 11 (.fl 12 (.fl 13 (.fl 14 (.fl 15 (.fl 16 (.fl 17 (.fl 18 (.fl 19 (.ef 20 (.fl 21 (.fl 22 .done))))))))))))))))))))))) (fun _ => _) mixed (by kernel_rfl) (by kernel_rfl) (fun _ => (List.Sublist.refl _)) ?_
              refine e_fl rfl rfl (fun hs_ => PF.mk rfl (v_move rfl) hs_) ?_
              refine e_fl rfl rfl (fun hs_ => PF.mk rfl (v_move rfl) hs_) ?_
              refine e_fl rfl rfl (fun hs_ => PF.mk rfl (v_indexA Try.underlying22 sz79 rfl rfl) hs_) ?_
              refine e_fl rfl rfl (fun hs_ => PF.mk rfl (v_fieldI 1 Try.underlying79 rfl rfl fz3 rfl (by assumption)) hs_) ?_
              refine e_fl rfl rfl (fun hs_ => PF.mk rfl (v_loadI ty3 ((hgat k hlt).mono Imm.leA) rfl rfl rfl) hs_) ?_
              by_cases e5 : 4 < gs[k].ar
              · refine e_fl rfl rfl (fun hs_ => PF.mk rfl (v_cmptA rfl rfl rfl) hs_) ?_
                refine e_fl rfl rfl (fun hs_ => PF.mk rfl (v_move rfl) hs_) ?_
                refine e_fl rfl rfl (fun hs_ => PF.mks rfl (by intro c hc; cases hc) rfl rfl (by simp [undef]) hs_) ?_
                refine e_fl rfl rfl (fun hs_ => PF.mks rfl (by intro c hc; cases hc) rfl rfl (by simp [undef]) hs_) ?_
                refine e_fl rfl rfl (fun hs_ => PF.mks rfl (by intro c hc; cases hc) rfl rfl (by simp [undef]) hs_) ?_
                refine e_fl rfl rfl (fun hs_ => PF.mks rfl (by intro c hc; cases hc) rfl rfl (by simp [undef]) hs_) ?_
                refine e_fl rfl rfl (fun hs_ => PF.mks rfl (by intro c hc; cases hc) rfl rfl (by simp [undef]) hs_) ?_
                refine e_fl rfl rfl (fun hs_ => PF.mks rfl (by intro c hc; cases hc) rfl rfl (by simp [undef]) hs_) ?_
                refine e_fl rfl rfl (fun hs_ => PF.mks rfl (by intro c hc; cases hc) rfl rfl (by simp [undef]) hs_) ?_
                refine e_fl rfl rfl (fun hs_ => PF.mks rfl (by intro c hc; cases hc) rfl rfl (by simp [undef]) hs_) ?_
                refine e_fl rfl rfl (fun hs_ => PF.mks rfl (by intro c hc; cases hc) rfl rfl (by simp [undef]) hs_) ?_
                refine e_fl rfl rfl (fun hs_ => PF.mks rfl (by intro c hc; cases hc) rfl rfl (by simp [undef]) hs_) ?_
                refine e_fl rfl rfl (fun hs_ => PF.mks rfl (by intro c hc; cases hc) rfl rfl (by simp [undef]) hs_) ?_
                refine e_fl rfl rfl (fun hs_ => PF.mks rfl (by intro c hc; cases hc) rfl rfl (by simp [undef]) hs_) ?_
                refine e_fl rfl rfl (fun hs_ => PF.mks rfl (by intro c hc; cases hc) rfl rfl (by simp [undef]) hs_) ?_
                refine e_eff rfl (by intro cs b hc; cases hc) (by intro c hc; cases hc) ?_
                refine op_skip rfl rfl (by simp [undef]) rfl ?_
                refine ops_nil ?_
                refine e_next rfl side_allA ?_
                refine e_fl rfl rfl (fun hs_ => PF.mks rfl (by intro c hc; cases hc) rfl rfl (by simp [undef]) hs_) ?_
                refine e_fl rfl rfl (fun hs_ => PF.mk rfl (v_pickt rfl rfl) hs_) ?_
                refine e_done ?_
                refine post_next ?_
                refine code_cond_t rfl ?_
                refine code_seq ?_
                refine code_region ?_
                refine op_v (v_assign rfl) rfl ?_
                refine ops_nil ?_
                refine post_next ?_
                refine code_ret ?_
                refine post_ret_then ?_
                refine post_ret_block ?_
                refine post_ret_then ?_
                refine post_ret_then ?_
                refine post_ret_block ?_
                refine post_ret_then ?_
                refine post_ret (rs := [.tmp 4]) rfl (List.Perm.refl _) (.cons (.tmp rfl) .nil) (List.nil_sublist _) ?_
                exact ⟨⟨false, rfl, fun h => by cases h⟩, rfl⟩
              · obtain ⟨q, hq⟩ : ∃ q : Nat, gs[k].ar = q := ⟨gs[k].ar.toNat, by omega⟩
                refine e_fl rfl rfl (fun hs_ => PF.mk rfl (v_cmpfA rfl rfl rfl) hs_) ?_
                refine e_fl rfl rfl (fun hs_ => PF.mk rfl (v_move rfl) hs_) ?_
                refine e_fl rfl rfl (fun hs_ => PF.mkg rfl rfl rfl (v_fieldB 1 Try.underlying25 rfl rfl fz23 rfl) hs_) ?_
                refine e_fl rfl rfl (fun hs_ => PF.mkg rfl rfl rfl (v_loadA ty23 rfl rfl) hs_) ?_
                refine e_fl rfl rfl (fun hs_ => PF.mkg rfl rfl rfl (v_move rfl) hs_) ?_
                refine e_fl rfl rfl (fun hs_ => PF.mkg rfl rfl rfl (v_indexA Try.underlying23 sz62 rfl rfl) hs_) ?_
                refine e_fl rfl rfl (fun hs_ => PF.mkg rfl rfl rfl (v_loadI0 ty62 (hate.mono Imm.leA) rfl rfl rfl) hs_) ?_
                refine e_fl rfl rfl (fun hs_ => PF.mkg rfl rfl rfl (v_len Try.underlying62 rfl) hs_) ?_
                refine e_fl rfl rfl (fun hs_ => PF.mkg rfl rfl rfl (v_fieldB 0 Try.underlying25 rfl rfl fz3 rfl) hs_) ?_
                refine e_fl rfl rfl (fun hs_ => PF.mkg rfl rfl rfl (v_loadA ty3 rfl rfl) hs_) ?_
                refine e_fl rfl rfl (fun hs_ => PF.mkg rfl rfl rfl (v_move rfl) hs_) ?_
                refine e_fl rfl rfl (fun hs_ => PF.mkg rfl rfl rfl (v_move rfl) hs_) ?_
                refine e_fl rfl rfl (fun hs_ => PF.mkg rfl rfl rfl (v_indexA Try.underlying22 sz79 rfl rfl) hs_) ?_
                refine e_fl rfl rfl (fun hs_ => PF.mkg rfl rfl rfl (v_fieldI 1 Try.underlying79 rfl rfl fz3 rfl (by assumption)) hs_) ?_
                refine e_fl rfl rfl (fun hs_ => PF.mkg rfl rfl rfl (v_loadI ty3 ((hgat k hlt).mono Imm.leA) rfl rfl rfl) hs_) ?_
                refine e_eff rfl (by intro cs b hc; cases hc) (by intro c hc; cases hc) ?_
                rw [hq]
                refine op_want rfl rfl ?_
                refine op_call pl65 rfl rfl ((power_does (s := w.size) (n := q) (by omega) (by omega) (by omega))) Parts.none ?_
                rintro _ I62 _ hI62 ⟨rfl, rfl⟩
                refine ops_nil ?_
                refine e_next rfl side_allA ?_
                by_cases e6 : (row.length : Int) ≠ w.size ^ q
                · refine e_fl rfl rfl (fun hs_ => PF.mkg rfl rfl rfl (v_cmptA rfl rfl rfl) hs_) ?_
                  refine e_fl rfl rfl (fun hs_ => PF.mk rfl (v_pickf rfl rfl) hs_) ?_
                  refine e_done ?_
                  refine post_next ?_
                  refine code_cond_t rfl ?_
                  refine code_seq ?_
                  refine code_region ?_
                  refine op_v (v_assign rfl) rfl ?_
                  refine ops_nil ?_
                  refine post_next ?_
                  refine code_ret ?_
                  refine post_ret_then ?_
                  refine post_ret_block ?_
                  refine post_ret_then ?_
                  refine post_ret_then ?_
                  refine post_ret_block ?_
                  refine post_ret_then ?_
                  refine post_ret (rs := [.tmp 4]) rfl (List.Perm.refl _) (.cons (.tmp rfl) .nil) (List.nil_sublist _) ?_
                  exact ⟨⟨false, rfl, fun h => by cases h⟩, rfl⟩
                · have hre0 := (hre.mono (show I.le I62 from Imm.leA)).cells
                  refine e_fl rfl rfl (fun hs_ => PF.mkg rfl rfl rfl (v_cmpfA rfl rfl rfl) hs_) ?_
                  refine e_fl rfl rfl (fun hs_ => PF.mk rfl (v_pickf rfl rfl) hs_) ?_
                  refine e_done ?_
                  refine post_next ?_
                  refine code_cond_f rfl ?_
                  refine code_skip ?_
                  refine post_next ?_
                  refine code_seq ?_
                  refine code_region ?_
                  refine op_v (v_assign rfl) rfl ?_
                  refine ops_nil ?_
                  refine post_next ?_
                  refine code_block ?_
                  refine code_loop (fun m σ' I' δ' => ∃ j : Nat, m = row.length - j ∧ j ≤ row.length ∧ σ' = [(0, .slice ga gs.length gc), (3, .pointer (some ⟨b3, 0, none⟩)), (5, .int .i64 k), (6, .int .i64 most), (7, .int .i64 j)] ∧ I62.le I' ∧ δ' = [.box b3 25 [.int .i64 w.size, .slice A w.rows.length c]] ∧ ∀ i (h : i < row.length), i < j → 0 ≤ row[i] ∧ row[i] < most) row.length [(0, .slice ga gs.length gc), (3, .pointer (some ⟨b3, 0, none⟩)), (5, .int .i64 k), (6, .int .i64 most), (7, .int .i64 (0 : Nat))] ⟨0, rfl, Nat.zero_le _, rfl, Imm.le_refl _, rfl, fun i _ h => by omega⟩ ⟨rfl, rfl, rfl, rfl, rfl, trivial⟩ ?_
                  rintro m _ I1 _ ⟨j, rfl, hj, rfl, hI1, rfl, hq2⟩
                  refine code_seq ?_
                  refine code_seq ?_
                  refine code_region ?_
                  refine op_v (v_move rfl) rfl ?_
                  refine op_v (v_fieldB 1 Try.underlying25 rfl rfl fz23 rfl) rfl ?_
                  refine op_v (v_loadA ty23 rfl rfl) rfl ?_
                  refine op_v (v_move rfl) rfl ?_
                  refine op_v (v_indexA Try.underlying23 sz62 rfl rfl) rfl ?_
                  refine op_v (v_loadI0 ty62 (hate.mono Imm.leA) rfl rfl rfl) rfl ?_
                  refine op_v (v_len Try.underlying62 rfl) rfl ?_
                  refine op_v (v_cmp rfl rfl rfl) rfl ?_
                  refine ops_nil ?_
                  refine post_next ?_
                  refine code_cond rfl (fun hc4 => ?_) (fun hc4 => ?_)
                  · have hltj : j < row.length := by simpa using hc4
                    have hs3 := ints_some hre0 j hltj
                    refine code_skip ?_
                    refine post_next ?_
                    refine code_seq ?_
                    refine code_block ?_
                    refine code_seq ?_
                    refine code_region ?_
                    refine op_v (v_fieldB 1 Try.underlying25 rfl rfl fz23 rfl) rfl ?_
                    refine op_v (v_loadA ty23 rfl rfl) rfl ?_
                    refine op_v (v_move rfl) rfl ?_
                    refine op_v (v_indexA Try.underlying23 sz62 rfl rfl) rfl ?_
                    refine op_v (v_loadI0 ty62 (hate.mono Imm.leA) rfl rfl rfl) rfl ?_
                    refine op_v (v_move rfl) rfl ?_
                    refine op_v (v_indexA Try.underlying62 sz3 rfl rfl) rfl ?_
                    refine op_v (v_loadI0 ty3 ((ints_at hre0 j hltj).mono Imm.leA) rfl rfl rfl) rfl ?_
                    by_cases e7 : row[j] < 0
                    · refine op_v (v_cmptA rfl rfl rfl) rfl ?_
                      refine op_v (v_move rfl) rfl ?_
                      refine op_skip rfl rfl (by simp [undef]) rfl ?_
                      refine op_skip rfl rfl (by simp [undef]) rfl ?_
                      refine op_skip rfl rfl (by simp [undef]) rfl ?_
                      refine op_skip rfl rfl (by simp [undef]) rfl ?_
                      refine op_skip rfl rfl (by simp [undef]) rfl ?_
                      refine op_skip rfl rfl (by simp [undef]) rfl ?_
                      refine op_skip rfl rfl (by simp [undef]) rfl ?_
                      refine op_skip rfl rfl (by simp [undef]) rfl ?_
                      refine op_skip rfl rfl (by simp [undef]) rfl ?_
                      refine op_skip rfl rfl (by simp [undef]) rfl ?_
                      refine op_v (v_pickt rfl rfl) rfl ?_
                      refine ops_nil ?_
                      refine post_next ?_
                      refine code_cond_t rfl ?_
                      refine code_seq ?_
                      refine code_region ?_
                      refine op_v (v_assign rfl) rfl ?_
                      refine ops_nil ?_
                      refine post_next ?_
                      refine code_ret ?_
                      refine post_ret_block ?_
                      refine post_ret_then ?_
                      refine post_ret_then ?_
                      refine post_ret_block ?_
                      refine post_ret_block ?_
                      refine post_ret_then ?_
                      refine post_ret_then ?_
                      refine post_ret_block ?_
                      refine post_ret_then ?_
                      refine post_ret (rs := [.tmp 4]) rfl (List.Perm.refl _) (.cons (.tmp rfl) .nil) (List.nil_sublist _) ?_
                      exact ⟨⟨false, rfl, fun h => by cases h⟩, rfl⟩
                    · refine op_v (v_cmpfA rfl rfl rfl) rfl ?_
                      refine op_v (v_move rfl) rfl ?_
                      first
                        | (refine op_want rfl rfl ?_
                           refine op_v (v_fieldB 1 Try.underlying25 rfl rfl fz23 rfl) rfl ?_)
                        | (refine op_skip rfl rfl (by simp [undef]) rfl ?_)
                      refine op_want rfl rfl ?_
                      refine op_v (v_loadA ty23 rfl rfl) rfl ?_
                      refine op_want rfl rfl ?_
                      refine op_v (v_move rfl) rfl ?_
                      first
                        | (refine op_want rfl rfl ?_
                           refine op_v (v_indexA Try.underlying23 sz62 rfl rfl) rfl ?_)
                        | (refine op_skip rfl rfl (by simp [undef]) rfl ?_)
                      first
                        | (refine op_want rfl rfl ?_
                           refine op_v (v_loadI0 ty62 (hate.mono Imm.leA) rfl rfl rfl) rfl ?_)
                        | (refine op_skip rfl rfl (by simp [undef]) rfl ?_)
                      refine op_want rfl rfl ?_
                      refine op_v (v_move rfl) rfl ?_
                      first
                        | (refine op_want rfl rfl ?_
                           refine op_v (v_indexA Try.underlying62 sz3 rfl rfl) rfl ?_)
                        | (refine op_skip rfl rfl (by simp [undef]) rfl ?_)
                      first
                        | (refine op_want rfl rfl ?_
                           refine op_v (v_loadI0 ty3 ((ints_at hre0 j hltj).mono Imm.leA) rfl rfl rfl) rfl ?_)
                        | (refine op_skip rfl rfl (by simp [undef]) rfl ?_)
                      refine op_want rfl rfl ?_
                      refine op_v (v_move rfl) rfl ?_
                      by_cases e8 : most ≤ row[j]
                      · first
                          | (refine op_want rfl rfl ?_
                             refine op_v (v_cmptA rfl rfl rfl) rfl ?_)
                          | (refine op_skip rfl rfl (by simp [undef]) rfl ?_)
                        refine op_v (v_pickf rfl rfl) rfl ?_
                        refine ops_nil ?_
                        refine post_next ?_
                        refine code_cond_t rfl ?_
                        refine code_seq ?_
                        refine code_region ?_
                        refine op_v (v_assign rfl) rfl ?_
                        refine ops_nil ?_
                        refine post_next ?_
                        refine code_ret ?_
                        refine post_ret_block ?_
                        refine post_ret_then ?_
                        refine post_ret_then ?_
                        refine post_ret_block ?_
                        refine post_ret_block ?_
                        refine post_ret_then ?_
                        refine post_ret_then ?_
                        refine post_ret_block ?_
                        refine post_ret_then ?_
                        refine post_ret (rs := [.tmp 4]) rfl (List.Perm.refl _) (.cons (.tmp rfl) .nil) (List.nil_sublist _) ?_
                        exact ⟨⟨false, rfl, fun h => by cases h⟩, rfl⟩
                      · first
                          | (refine op_want rfl rfl ?_
                             refine op_v (v_cmpfA rfl rfl rfl) rfl ?_)
                          | (refine op_skip rfl rfl (by simp [undef]) rfl ?_)
                        refine op_v (v_pickf rfl rfl) rfl ?_
                        refine ops_nil ?_
                        refine post_next ?_
                        refine code_cond_f rfl ?_
                        refine code_skip ?_
                        refine post_out ?_
                        refine post_next ?_
                        refine code_region ?_
                        refine op_v (v_move rfl) rfl ?_
                        refine op_v (v_addb rfl rfl rfl (by omega)) rfl ?_
                        refine op_v (v_assign rfl) rfl ?_
                        refine ops_nil ?_
                        refine post_again (row.length - (j + 1)) [(0, .slice ga gs.length gc), (3, .pointer (some ⟨b3, 0, none⟩)), (5, .int .i64 k), (6, .int .i64 most), (7, .int .i64 (j + 1 : Nat))] (by omega) ⟨j + 1, rfl, hltj, rfl, Imm.leA, rfl, fun i h hi => ?_⟩ ⟨rfl, rfl, rfl, rfl, rfl, trivial⟩
                        rcases Nat.lt_or_ge i j with hik | hik
                        · exact hq2 i h hik
                        have hik2 : i = j := by omega
                        subst hik2
                        exact ⟨by omega, by omega⟩
                  · have hgej : j = row.length := by simp at hc4; omega
                    refine code_exit ?_
                    refine post_exit_then ?_
                    refine post_exit_then ?_
                    refine post_exit ?_
                    refine post_out ?_
                    refine post_next ?_
                    refine code_region ?_
                    refine op_v (v_move rfl) rfl ?_
                    refine op_v (v_addb rfl rfl rfl (by omega)) rfl ?_
                    refine op_v (v_assign rfl) rfl ?_
                    refine ops_nil ?_
                    refine post_again (gs.length - (k + 1)) [(0, .slice ga gs.length gc), (3, .pointer (some ⟨b3, 0, none⟩)), (5, .int .i64 (k + 1 : Nat))] (by omega) ⟨k + 1, rfl, hlt, rfl, Imm.leA, rfl, fun i h hi => ?_⟩ ⟨rfl, rfl, rfl, trivial⟩
                    rcases Nat.lt_or_ge i k with hik | hik
                    · exact hp i h hik
                    have hik2 : i = k := by omega
                    subst hik2
                    refine ⟨by omega, by rw [hrow, hq]; simpa using e6, fun x hx => ?_⟩
                    rw [hrow] at hx
                    obtain ⟨n, hn, rfl⟩ := List.getElem_of_mem hx
                    have h8 := hq2 n hn (by omega)
                    exact ⟨h8.1, fun ht => by rw [← hmost ht]; exact h8.2⟩
          · have hge : k = gs.length := by simp at hc1; omega
            refine code_exit ?_
            refine post_exit_then ?_
            refine post_exit_then ?_
            refine post_exit ?_
            refine post_next ?_
            refine code_seq ?_
            refine code_region ?_
            have hl0 : 0 < w.rows.length := by omega
            obtain ⟨ed, ec, hate, hre⟩ := hat 0 hl0
            have hs2 := hate.isSome
            have h00 := hp 0 (by omega) (by omega)
            have har1 := right_ar e1 0 (by omega)
            have hpb := pow_bound (s := w.size) (by omega) (by omega) (gs[0]'(by omega)).ar.toNat (by omega)
            have hl1 : 0 < (w.rows[0]'hl0).length := by omega
            have hs3 := ints_some hre.cells 0 hl1
            refine op_v (v_fieldB 1 Try.underlying25 rfl rfl fz23 rfl) rfl ?_
            refine op_v (v_loadA ty23 rfl rfl) rfl ?_
            refine op_v (v_indexA Try.underlying23 sz62 rfl rfl) rfl ?_
            refine op_v (v_loadI0 (m := 0) ty62 (by have := hate.mono (show I.le I0 from Imm.leA); simpa using this) rfl rfl rfl) rfl ?_
            refine op_v (v_indexA Try.underlying62 sz3 rfl rfl) rfl ?_
            refine op_v (v_loadI0 (m := 0) ty3 (by have := (ints_at hre.cells 0 hl1).mono (show I.le I0 from Imm.leA); simpa using this) rfl rfl rfl) rfl ?_
            refine op_v (v_cmp rfl rfl rfl) rfl ?_
            refine op_v (v_assign rfl) rfl ?_
            refine ops_nil ?_
            refine post_next ?_
            refine code_ret ?_
            refine post_ret (rs := [.tmp 4]) rfl (List.Perm.refl _) (.cons (.tmp rfl) .nil) (List.nil_sublist _) ?_
            exact ⟨⟨_, rfl, fun _ => ⟨by omega, by omega, hlr, fun i h => hp i h (by omega)⟩⟩, rfl⟩
  · have e1' : rightG gs = false := by simpa using e1
    rw [e1']
    refine op_v (v_not rfl) rfl ?_
    refine op_v (v_move rfl) rfl ?_
    refine op_skip rfl rfl (by simp [undef]) rfl ?_
    refine op_skip rfl rfl (by simp [undef]) rfl ?_
    refine op_skip rfl rfl (by simp [undef]) rfl ?_
    refine op_v (v_pickt rfl rfl) rfl ?_
    refine op_v (v_move rfl) rfl ?_
    refine op_skip rfl rfl (by simp [undef]) rfl ?_
    refine op_skip rfl rfl (by simp [undef]) rfl ?_
    refine op_skip rfl rfl (by simp [undef]) rfl ?_
    refine op_v (v_pickt rfl rfl) rfl ?_
    refine op_v (v_move rfl) rfl ?_
    refine op_skip rfl rfl (by simp [undef]) rfl ?_
    refine op_skip rfl rfl (by simp [undef]) rfl ?_
    refine op_skip rfl rfl (by simp [undef]) rfl ?_
    refine op_skip rfl rfl (by simp [undef]) rfl ?_
    refine op_skip rfl rfl (by simp [undef]) rfl ?_
    refine op_skip rfl rfl (by simp [undef]) rfl ?_
    refine op_v (v_pickt rfl rfl) rfl ?_
    refine ops_nil ?_
    refine post_next ?_
    refine code_cond_t rfl ?_
    refine code_seq ?_
    refine code_region ?_
    refine op_v (v_assign rfl) rfl ?_
    refine ops_nil ?_
    refine post_next ?_
    refine code_ret ?_
    refine post_ret_then ?_
    refine post_ret (rs := [.tmp 4]) rfl (List.Perm.refl _) (.cons (.tmp rfl) .nil) (List.nil_sublist _) ?_
    exact ⟨⟨false, rfl, fun h => by cases h⟩, rfl⟩
end Go.Proofs.Ytdbadicpbmndbaa
/- Walks: what a term is in a world; the statement on literals in worlds. -/
set_option linter.unusedVariables false
set_option linter.unusedSimpArgs false
set_option linter.unnecessarySimpa false
/- short -/
namespace Go.Proofs.Ytdbadicpbmndbaa
open Go Lg

def litWd (w : Wd) (os : List Int) (x : Li) : Bool := !(decide (wvT w os x.l = wvT w os x.r) == x.neg)
end Go.Proofs.Ytdbadicpbmndbaa
/- Clauses in worlds: what is subsumed holds, what is left of a cut holds. Plain facts; no condition. -/
set_option linter.unusedVariables false
set_option linter.unusedSimpArgs false
set_option linter.unnecessarySimpa false
namespace Go.Proofs.Ytdbadicpbmndbaa
open Go Lg

mutual
def vaT (w : Wd) (ρ : Int → Int) : T → Int
  | .mk h ts => if h < 0 then ρ (-1 - h) else ((w.rows[h.toNat]?).getD []).getD (vaL w ρ 0 ts).toNat 0
def vaL (w : Wd) (ρ : Int → Int) : Int → List T → Int
  | a, [] => a
  | a, t :: r => vaL w ρ (a * w.size + vaT w ρ t) r
end
def osF (os : List Int) (v : Int) : Int := (os[v.toNat]?).getD 0
mutual
theorem wv_vaT (w : Wd) (os : List Int) : ∀ t : T, wvT w os t = vaT w (osF os) t
  | .mk h ts => by simp only [wvT, vaT, osF, wv_vaL w os ts 0]
theorem wv_vaL (w : Wd) (os : List Int) : ∀ (ts : List T) (a : Int), wvL w os a ts = vaL w (osF os) a ts
  | [], a => by simp only [wvL, vaL]
  | t :: r, a => by simp only [wvL, vaL]; rw [wv_vaT w os t, wv_vaL w os r]
end
mutual
theorem va_congr {w : Wd} {ρ σ : Int → Int} : ∀ t : T, (∀ k ∈ hds t, k < 0 → ρ (-1 - k) = σ (-1 - k)) → vaT w ρ t = vaT w σ t
  | .mk h ts, hk => by
    rw [hds_eq2] at hk
    simp only [vaT]
    by_cases q : h < 0
    · rw [if_pos q, if_pos q]; exact hk h (List.mem_cons_self ..) q
    · rw [if_neg q, if_neg q, va_congrL ts 0 fun k hm => hk k (List.mem_cons_of_mem _ hm)]
theorem va_congrL {w : Wd} {ρ σ : Int → Int} : ∀ (ts : List T) (a : Int), (∀ k ∈ ts.flatMap hds, k < 0 → ρ (-1 - k) = σ (-1 - k)) → vaL w ρ a ts = vaL w σ a ts
  | [], a, _ => by simp only [vaL]
  | t :: r, a, hk => by
    rw [List.flatMap_cons] at hk
    simp only [vaL]
    rw [va_congr t fun k hm => hk k (List.mem_append_left _ hm), va_congrL r _ fun k hm => hk k (List.mem_append_right _ hm)]
end
mutual
theorem va_put (w : Wd) (ρ : Int → Int) (θ : Int → T) : ∀ t : T, vaT w ρ (pT θ t) = vaT w (fun v => vaT w ρ (θ v)) t
  | .mk h ts => by
    rw [pT_mk]
    by_cases q : h < 0
    · rw [if_pos q]; simp only [vaT]; rw [if_pos q]
    · rw [if_neg q]; simp only [vaT]; rw [if_neg q, if_neg q, va_putL w ρ θ ts 0]
theorem va_putL (w : Wd) (ρ : Int → Int) (θ : Int → T) : ∀ (ts : List T) (a : Int), vaL w ρ a (pL θ ts) = vaL w (fun v => vaT w ρ (θ v)) a ts
  | [], a => by simp only [pL, rbL, vaL]
  | t :: r, a => by
    have h1 := va_put w ρ θ t
    have h2 := va_putL w ρ θ r
    have e : pL θ (t :: r) = pT θ t :: pL θ r := rfl
    rw [e]
    simp only [vaL]
    rw [h1, h2]
end
/-! ### values are things -/
section
variable {gs : List Sy} {w : Wd} (hR : WR gs w) {ρ : Int → Int}
include hR
theorem vaL_bound : ∀ (ts : List T) (a : Int) (k : Nat), 0 ≤ a → a < w.size ^ k → (∀ t ∈ ts, 0 ≤ vaT w ρ t ∧ vaT w ρ t < w.size) → 0 ≤ vaL w ρ a ts ∧ vaL w ρ a ts < w.size ^ (k + ts.length)
  | [], a, k, h0, h1, _ => by simp only [vaL]; exact ⟨h0, h1⟩
  | t :: r, a, k, h0, h1, ht => by
    have hlo := hR.lo
    have h2 := ht t (List.mem_cons_self ..)
    simp only [vaL]
    have h3 : 0 ≤ a * w.size := Int.mul_nonneg h0 (by omega)
    have h4 : a * w.size + w.size ≤ w.size ^ (k + 1) := by
      have h9 : (a + 1) * w.size ≤ w.size ^ k * w.size := Int.mul_le_mul_of_nonneg_right (by omega) (by omega)
      rw [Int.add_mul, Int.one_mul] at h9
      rw [Int.pow_succ]; exact h9
    have := vaL_bound r (a * w.size + vaT w ρ t) (k + 1) (by omega) (by omega) fun u hu => ht u (List.mem_cons_of_mem _ hu)
    rw [List.length_cons, show k + (r.length + 1) = k + 1 + r.length by omega]
    exact this
theorem va_range (hρ : ∀ v, 0 ≤ ρ v ∧ ρ v < w.size) : ∀ (n : Nat) (t : T), t.size ≤ n → OkG gs t → trL gs t = false → 0 ≤ vaT w ρ t ∧ vaT w ρ t < w.size
  | 0, t, h, _, _ => by have := t.size_pos; omega
  | n + 1, .mk h ts, hn, hO, htr => by
    have hsz : (T.mk h ts).size = 1 + sizeL ts := by simp [T.size]
    simp only [vaT]
    by_cases q : h < 0
    · rw [if_pos q]; exact hρ _
    · rw [if_neg q]
      have hhd := hO.heads (true, .mk h ts) (by rw [visT_eq]; exact List.mem_cons_self ..)
      simp only at hhd
      change h < 0 ∨ (0 ≤ h ∧ h < gs.length) at hhd
      have hlt : h.toNat < gs.length := by omega
      have hltr : h.toNat < w.rows.length := by rw [hR.len]; exact hlt
      obtain ⟨har4, harl, hrow⟩ := hR.each h.toNat hlt
      have har0 := right_ar hO.right h.toNat hlt
      have hlar : (ts.length : Int) = gs[h.toNat].ar := by
        have h1 := hO.arity (show 0 ≤ (T.mk h ts).head by show 0 ≤ h; omega)
        change (ts.length : Int) = arG gs h at h1
        rw [arG_at (show 0 ≤ h by omega) (by omega)] at h1; exact h1
      have hb := vaL_bound hR ts 0 0 (Int.le_refl _) (by simp) fun t ht => by
        obtain ⟨i, hi, rfl⟩ := List.getElem_of_mem ht
        have hm := sizeL_mem ts i hi
        exact va_range hρ n _ (by omega) (hO.child i hi).1 (arg_thing hO i hi)
      rw [Nat.zero_add] at hb
      have e : gs[h.toNat].ar.toNat = ts.length := by omega
      rw [e] at harl
      have hidx : (vaL w ρ 0 ts).toNat < (w.rows[h.toNat]'hltr).length := by omega
      rw [List.getElem?_eq_getElem hltr, Option.getD_some, List.getD_eq_getElem?_getD, List.getElem?_eq_getElem hidx, Option.getD_some]
      have hin := hrow _ (List.getElem_mem hidx)
      refine ⟨hin.1, hin.2 ?_⟩
      unfold trL at htr
      rw [show (T.mk h ts).head = h from rfl, trG_at (by omega) (by omega), show decide (0 ≤ h) = true by simp; omega, Bool.true_and] at htr
      exact htr
end
/-! ### what stands for a variable is a thing -/
mutual
theorem vars_thingT {gs : List Sy} {θ : Int → T} : ∀ (t : T), OkG gs t → OkG gs (pT θ t) → (t.head < 0 → trL gs (pT θ t) = false) → ∀ k ∈ hds t, k < 0 → OkG gs (θ (-1 - k)) ∧ trL gs (θ (-1 - k)) = false
  | .mk h us, hT, hO, hv, k, hk, h0 => by
    rw [hds_eq2] at hk
    rw [pT_mk] at hO hv
    by_cases q : h < 0
    · rw [if_pos q] at hO hv
      have hl : us = [] := hT.leaf q
      subst hl
      rcases List.mem_cons.1 hk with rfl | hk
      · exact ⟨hO, hv q⟩
      · simp at hk
    · rw [if_neg q] at hO
      rcases List.mem_cons.1 hk with rfl | hk
      · omega
      · exact vars_thingL us (fun i hi => (hT.child i hi).1) (fun i hi => ⟨(hO.child i hi).1, arg_thing hO i hi⟩) k hk h0
theorem vars_thingL {gs : List Sy} {θ : Int → T} : ∀ (ts : List T), (∀ i (hi : i < ts.length), OkG gs ts[i]) → (∀ i (hi : i < (pL θ ts).length), OkG gs (pL θ ts)[i] ∧ trL gs (pL θ ts)[i] = false) → ∀ k ∈ ts.flatMap hds, k < 0 → OkG gs (θ (-1 - k)) ∧ trL gs (θ (-1 - k)) = false
  | [], _, _, k, hk, _ => by simp at hk
  | t :: r, hT, h, k, hk, h0 => by
    have e : pL θ (t :: r) = pT θ t :: pL θ r := rfl
    rw [List.flatMap_cons] at hk
    rcases List.mem_append.1 hk with hk | hk
    · have h1 := h 0 (by rw [e]; simp)
      simp only [e, List.getElem_cons_zero] at h1
      have h2 := hT 0 (by simp)
      exact vars_thingT t h2 h1.1 (fun _ => h1.2) k hk h0
    · refine vars_thingL r (fun i hi => by have := hT (i + 1) (by simpa using hi); simpa using this) (fun i hi => ?_) k hk h0
      have h1 := h (i + 1) (by rw [e]; simpa using hi)
      simp only [e, List.getElem_cons_succ] at h1
      exact h1
end
/-! ### literals -/
theorem head0_tr {gs : List Sy} (h : rightG gs = true) {t : T} (h0 : t.head = 0) : trL gs t = true := by
  obtain ⟨hl, _⟩ := rightG_len h
  cases gs with
  | nil => simp at hl
  | cons x r =>
    simp only [rightG, Bool.and_eq_true] at h
    have htr : x.tr = true := by
      have := h.2.1
      unfold syEq at this
      simp only [Bool.and_eq_true] at this
      simp_all [truthS]
    unfold trL trG
    rw [h0]; simp [htr]
theorem lit_kind {gs : List Sy} {x : Li} (h : litG gs x = 0) : (kindB x = false → trL gs x.l = false ∧ trL gs x.r = false) ∧ (kindB x = true → ¬ x.l.head < 0 ∧ ¬ x.r.head < 0) := by
  obtain ⟨h1, h2⟩ := litG_ok h
  have hs : sortL gs x = false := by
    unfold litG at h
    split at h
    · rename_i q; exact absurd h q
    · split at h
      · rename_i q; exact absurd h q
      · split at h
        · cases h
        · rename_i q; simpa using q
  unfold sortL at hs
  simp only [Bool.or_eq_false_iff, Bool.and_eq_false_iff, Bool.not_eq_false', decide_eq_false_iff_not, ne_eq, Classical.not_not] at hs
  obtain ⟨e1, e2⟩ := hs
  have neg : ∀ {t : T}, t.head < 0 → trL gs t = false := fun ht => by unfold trL; rw [decide_eq_false (by omega)]; rfl
  constructor
  · intro hk
    unfold kindB at hk
    rw [Bool.or_eq_false_iff, decide_eq_false_iff_not, decide_eq_false_iff_not] at hk
    cases q : trL gs x.l
    · refine ⟨rfl, ?_⟩
      rcases e2 with e | e
      · rw [q] at e; cases e
      · exact e
    · rcases e1 with e | e
      · rw [q] at e; cases e
      · exact absurd e hk.2
  · intro hk
    unfold kindB at hk
    rw [Bool.or_eq_true, decide_eq_true_eq, decide_eq_true_eq] at hk
    have hl : trL gs x.l = true := by
      rcases hk with k | k
      · exact head0_tr h1.right k
      · have := head0_tr h1.right k
        rcases e2 with e | e
        · exact e
        · rw [this] at e; cases e
    have hr : x.r.head = 0 := by
      rcases e1 with e | e
      · rw [hl] at e; cases e
      · exact e
    exact ⟨fun q => (by rw [neg q] at hl; cases hl), by omega⟩
def litV (w : Wd) (ρ : Int → Int) (x : Li) : Bool := !(decide (vaT w ρ x.l = vaT w ρ x.r) == x.neg)
theorem litWd_V (w : Wd) (os : List Int) (x : Li) : litWd w os x = litV w (osF os) x := by unfold litWd litV; rw [wv_vaT, wv_vaT]
def HoW (w : Wd) (c : List Li) : Prop := ∀ ρ : Int → Int, (∀ v, 0 ≤ ρ v ∧ ρ v < w.size) → ∃ x ∈ c, litV w ρ x = true
/-- what variables are, by what stands for them -/
def thr (w : Wd) (ρ : Int → Int) (θ : Int → T) (v : Int) : Int := if 0 ≤ vaT w ρ (θ v) ∧ vaT w ρ (θ v) < w.size then vaT w ρ (θ v) else 0
theorem thr_in {gs : List Sy} {w : Wd} (hR : WR gs w) (ρ : Int → Int) (θ : Int → T) (v : Int) : 0 ≤ thr w ρ θ v ∧ thr w ρ θ v < w.size := by
  have := hR.lo
  unfold thr
  split
  · assumption
  · omega
theorem thr_val {gs : List Sy} {w : Wd} (hR : WR gs w) {ρ : Int → Int} (hρ : ∀ v, 0 ≤ ρ v ∧ ρ v < w.size) {θ : Int → T} {t : T} (hT : OkG gs t) (hO : OkG gs (pT θ t)) (hv : t.head < 0 → trL gs (pT θ t) = false) : vaT w (thr w ρ θ) t = vaT w ρ (pT θ t) := by
  rw [va_put]
  refine va_congr t fun k hk h0 => ?_
  obtain ⟨h1, h2⟩ := vars_thingT t hT hO hv k hk h0
  have := va_range hR hρ _ _ (Nat.le_refl _) h1 h2
  unfold thr; rw [if_pos this]
theorem lit_val {gs : List Sy} {w : Wd} (hR : WR gs w) {ρ : Int → Int} (hρ : ∀ v, 0 ≤ ρ v ∧ ρ v < w.size) {θ : Int → T} {a l : Li} (ha : litG gs a = 0) (hl : litG gs l = 0) (h : litM θ a l) : decide (vaT w (thr w ρ θ) a.l = vaT w (thr w ρ θ) a.r) = decide (vaT w ρ l.l = vaT w ρ l.r) := by
  obtain ⟨hk, hm⟩ := h
  obtain ⟨a1, a2⟩ := litG_ok ha
  obtain ⟨l1, l2⟩ := litG_ok hl
  have hthing : ∀ {t s : T}, (t = a.l ∨ t = a.r) → (s = l.l ∨ s = l.r) → t.head < 0 → trL gs s = false := fun {t s} ht hs hn => by
    have hka : kindB a = false := by
      cases q : kindB a
      · rfl
      · have := (lit_kind ha).2 q
        rcases ht with rfl | rfl
        · exact absurd hn this.1
        · exact absurd hn this.2
    have := (lit_kind hl).1 (hk ▸ hka)
    rcases hs with rfl | rfl
    · exact this.1
    · exact this.2
  rcases hm with ⟨e1, e2⟩ | ⟨e1, e2⟩
  · rw [thr_val hR hρ a1 (by rw [e1]; exact l1) (fun q => by rw [e1]; exact hthing (.inl rfl) (.inl rfl) q), thr_val hR hρ a2 (by rw [e2]; exact l2) (fun q => by rw [e2]; exact hthing (.inr rfl) (.inr rfl) q), e1, e2]
  · rw [thr_val hR hρ a1 (by rw [e1]; exact l2) (fun q => by rw [e1]; exact hthing (.inl rfl) (.inr rfl) q), thr_val hR hρ a2 (by rw [e2]; exact l1) (fun q => by rw [e2]; exact hthing (.inr rfl) (.inl rfl) q), e1, e2]
    exact decide_eq_decide.2 ⟨Eq.symm, Eq.symm⟩
theorem sub_holds {gs : List Sy} {w : Wd} (hR : WR gs w) {c d : List Li} (hc : ∀ x ∈ c, litG gs x = 0) (hd : ∀ x ∈ d, litG gs x = 0) (h : Sub c d) (hh : HoW w c) : HoW w d := fun ρ hρ => by
  obtain ⟨θ, js, e1, _⟩ := Sub_iff.1 h
  obtain ⟨x, hx, hv⟩ := hh (thr w ρ θ) (thr_in hR ρ θ)
  obtain ⟨i, hi, rfl⟩ := List.getElem_of_mem hx
  have hij : i < js.length := by rw [Asg_len e1]; exact hi
  obtain ⟨hj, hn, hm⟩ := Asg_get e1 i hi hij
  refine ⟨_, List.getElem_mem hj, ?_⟩
  have := lit_val hR hρ (hc _ (List.getElem_mem hi)) (hd _ (List.getElem_mem hj)) hm
  unfold litV at hv ⊢
  rw [this] at hv
  rw [hn]; exact hv
theorem mem_erase_of {d : List Li} {j k : Nat} (hj : j < d.length) (hne : j ≠ k) : d[j] ∈ d.eraseIdx k := by
  rw [List.mem_eraseIdx_iff_getElem]
  exact ⟨j, hj, hne, rfl⟩
theorem cut_holds {gs : List Sy} {w : Wd} (hR : WR gs w) {c d : List Li} {i k : Nat} (hc : ∀ x ∈ c, litG gs x = 0) (hd : ∀ x ∈ d, litG gs x = 0) (h : CutP c d i k) (hh : HoW w c) (hg : HoW w d) : HoW w (d.eraseIdx k) := fun ρ hρ => by
  obtain ⟨hi, hk, hne, θ, hm, hs⟩ := h
  obtain ⟨y, hy, hyv⟩ := hg ρ hρ
  obtain ⟨j0, hj0, rfl⟩ := List.getElem_of_mem hy
  by_cases q0 : j0 = k
  · subst q0
    obtain ⟨js, e1, _, e3⟩ := SubS_iff.1 hs
    obtain ⟨x, hx, hv⟩ := hh (thr w ρ θ) (thr_in hR ρ θ)
    obtain ⟨m, hml, rfl⟩ := List.getElem_of_mem hx
    by_cases q1 : m = i
    · subst q1
      exfalso
      have := lit_val hR hρ (hc _ (List.getElem_mem hi)) (hd _ (List.getElem_mem hk)) hm
      unfold litV at hv hyv
      rw [this] at hv
      revert hv hyv hne
      cases c[m].neg <;> cases d[j0].neg <;> cases decide (vaT w ρ d[j0].l = vaT w ρ d[j0].r) <;> simp
    · have hx2 := mem_erase_of hml q1
      obtain ⟨m2, hm2, e⟩ := List.getElem_of_mem hx2
      have hij : m2 < js.length := by rw [Asg_len e1]; exact hm2
      obtain ⟨hj, hn, hm'⟩ := Asg_get e1 m2 hm2 hij
      have hjne : js[m2] ≠ j0 := fun e => by
        have := e3 _ (List.getElem_mem hij)
        rw [e, List.getElem?_set_self (by simpa [freeU] using hk)] at this; cases this
      refine ⟨_, mem_erase_of hj hjne, ?_⟩
      rw [e] at hn hm'
      have := lit_val hR hρ (hc _ (List.getElem_mem hml)) (hd _ (List.getElem_mem hj)) hm'
      unfold litV at hv ⊢
      rw [this] at hv
      rw [hn]; exact hv
  · exact ⟨_, mem_erase_of hj0 q0, hyv⟩
/-! ### all rows of things -/
def dgF (s : Nat) : List Int → Nat → Int → Int
  | [], _, _ => 0
  | v :: r, n, u => if v = u then ((n % s : Nat) : Int) else dgF s r (n / s) u
theorem dgF_in {s : Nat} (hs : 1 ≤ s) : ∀ (vs : List Int) (n : Nat) (u : Int), 0 ≤ dgF s vs n u ∧ dgF s vs n u < s
  | [], n, u => by simp only [dgF]; omega
  | v :: r, n, u => by
    simp only [dgF]
    have := Nat.mod_lt n (show s > 0 by omega)
    split
    · omega
    · exact dgF_in hs r (n / s) u
theorem dgF_at {s : Nat} : ∀ {vs : List Int} (n i : Nat) (hi : i < vs.length), vs.Nodup → dgF s vs n vs[i] = ((n / s ^ i % s : Nat) : Int)
  | v :: r, n, 0, _, _ => by simp [dgF]
  | v :: r, n, i + 1, hi, hn => by
    obtain ⟨h1, h2⟩ := List.nodup_cons.1 hn
    simp only [List.getElem_cons_succ, dgF]
    rw [if_neg (fun e => h1 (by rw [e]; exact List.getElem_mem _)), dgF_at (n / s) i (by simpa using hi) h2, Nat.div_div_eq_div_mul, Nat.pow_succ, Nat.mul_comm]
theorem dgF_onto {s : Nat} (hs : 1 ≤ s) {ρ : Int → Int} (hρ : ∀ v, 0 ≤ ρ v ∧ ρ v < s) : ∀ vs : List Int, ∃ n, n < s ^ vs.length ∧ ∀ v ∈ vs, dgF s vs n v = ρ v
  | [] => ⟨0, by simp, fun v h => by cases h⟩
  | v :: r => by
    obtain ⟨n, h1, h2⟩ := dgF_onto hs hρ r
    obtain ⟨d, hd⟩ := Int.eq_ofNat_of_zero_le (hρ v).1
    have hds : d < s := by have := (hρ v).2; omega
    refine ⟨d + s * n, ?_, fun u hu => ?_⟩
    · rw [List.length_cons, Nat.pow_succ]
      calc d + s * n < s + s * n := by omega
        _ = s * (n + 1) := by rw [Nat.mul_add, Nat.mul_one, Nat.add_comm]
        _ ≤ s * s ^ r.length := Nat.mul_le_mul_left _ h1
        _ = s ^ r.length * s := Nat.mul_comm _ _
    · have e1 : (d + s * n) % s = d := by rw [Nat.add_mul_mod_self_left, Nat.mod_eq_of_lt hds]
      have e2 : (d + s * n) / s = n := by rw [Nat.add_mul_div_left _ _ (by omega), Nat.div_eq_of_lt hds, Nat.zero_add]
      simp only [dgF]
      rw [e1, e2]
      by_cases e : v = u
      · rw [if_pos e, ← e, hd]
      · rw [if_neg e]; exact h2 u (List.mem_of_ne_of_mem (fun q => e q.symm) hu)
theorem litV_congr {w : Wd} {ρ σ : Int → Int} {c : List Li} {x : Li} (hx : x ∈ c) (h : ∀ v ∈ uvL [] (sidesL c), ρ v = σ v) (huv : ∀ {t : T}, t ∈ sidesL c → ∀ k ∈ hds t, k < 0 → -1 - k ∈ uvL [] (sidesL c)) : litV w ρ x = litV w σ x := by
  have key : ∀ t, t = x.l ∨ t = x.r → vaT w ρ t = vaT w σ t := fun t ht => va_congr t fun k hk h0 => h _ (huv (List.mem_flatMap.2 ⟨x, hx, by rcases ht with rfl | rfl <;> simp⟩) k hk h0)
  unfold litV
  rw [key _ (.inl rfl), key _ (.inr rfl)]
theorem HoW_iff {gs : List Sy} {w : Wd} (hR : WR gs w) {c : List Li} (huv : ∀ {t : T}, t ∈ sidesL c → ∀ k ∈ hds t, k < 0 → -1 - k ∈ uvL [] (sidesL c)) : HoW w c ↔ ∀ n, n < w.size.toNat ^ (uvL [] (sidesL c)).length → ∃ x ∈ c, litV w (dgF w.size.toNat (uvL [] (sidesL c)) n) x = true := by
  have hlo := hR.lo
  have hs : 1 ≤ w.size.toNat := by omega
  constructor
  · intro h n _
    refine h _ fun v => ?_
    have := dgF_in hs (uvL [] (sidesL c)) n v
    omega
  · intro h ρ hρ
    obtain ⟨n, h1, h2⟩ := dgF_onto hs (ρ := ρ) (fun v => by have := hρ v; omega) (uvL [] (sidesL c))
    obtain ⟨x, hx, hv⟩ := h n h1
    exact ⟨x, hx, by rw [litV_congr hx (fun v hv => (h2 v hv).symm) huv]; exact hv⟩
end Go.Proofs.Ytdbadicpbmndbaa
/- Walks: clauses in worlds. -/
set_option linter.unusedVariables false
set_option linter.unusedSimpArgs false
set_option linter.unnecessarySimpa false
/- short -/
namespace Go.Proofs.Ytdbadicpbmndbaa
open Go Lg

theorem Rsides_does {I : Imm} {v : Value} {c : List Li} (hv : RepC I v c) :
    Does Try.prog 68 [v] I [] (fun v I' δ' => RepS I' v (sidesL c) ∧ δ' = []) := by
  obtain ⟨ad, c0, xs, rfl, hc, hb, hcells, hrow⟩ := hv
  refine Does.intro Try.func68 rfl Try.ntmps68 rfl fun w0 => ?_
  refine code_seq ?_
  refine code_region ?_
  refine op_v (v_assign rfl) rfl ?_
  refine ops_nil ?_
  refine post_next ?_
  refine code_seq ?_
  refine code_region ?_
  refine op_v (v_assign rfl) rfl ?_
  refine ops_nil ?_
  refine post_next ?_
  refine code_seq ?_
  refine code_seq ?_
  refine code_region ?_
  refine op_v (v_assign rfl) rfl ?_
  refine ops_nil ?_
  refine post_next ?_
  refine code_block ?_
  refine CodeJ.view (View.nilRow 47 2) ?_
  refine code_loop (fun m σ' I' δ' => ∃ (k : Nat) (A : Option Addr) (c' : Nat) (ys : List Value), m = c.length - k ∧ k ≤ c.length ∧ σ' = [(0, .slice ad c.length c0), (3, .slice A (2 * k) c'), (4, .int .i64 k)] ∧ I = I' ∧ δ' = [.row (.slice A (2 * k) c') 47 2 (2 * k) ys] ∧ RowE TermE I ys (sidesL (c.take k))) c.length [(0, .slice ad c.length c0), (3, .slice none (2 * 0) 0), (4, .int .i64 (0 : Nat))] ⟨0, none, 0, [], rfl, Nat.zero_le _, rfl, rfl, rfl, rfl⟩ ⟨rfl, rfl, rfl, trivial⟩ ?_
  rintro m _ _ _ ⟨k, A, c', ys, rfl, hk, rfl, rfl, rfl, hys⟩
  refine code_seq ?_
  refine code_seq ?_
  refine code_region ?_
  refine op_v (v_move rfl) rfl ?_
  refine op_v (v_move rfl) rfl ?_
  refine op_v (v_len Try.underlying26 rfl) rfl ?_
  refine op_v (v_cmp rfl rfl rfl) rfl ?_
  refine ops_nil ?_
  refine post_next ?_
  refine code_cond rfl (fun hc0 => ?_) (fun hc0 => ?_)
  · have hlt : k < c.length := by simpa using hc0
    obtain ⟨vs, ⟨la, lc, ra, rc, rfl, hl, hr⟩, hat⟩ := hrow.cellsAt hcells hlt
    have hs1 := hat.isSome
    refine code_skip ?_
    refine post_next ?_
    refine code_seq ?_
    refine code_block ?_
    refine code_draw (.fl 0 (.fl 1 (.fl 2 (.fl 3 (.fl 4 (.fl 5 (.fl 6 (.fl 7 (.fl 8 (.fl 9 (.fl 10 (.ef 11 (.ef 12 (.ef 13 .done)))))))))))))) (fun _ => ([] : List Ent)) mixed (by kernel_rfl) (by kernel_rfl) (fun _ => (List.nil_sublist _)) ?_
    refine e_fl rfl rfl (fun hs_ => PF.mk rfl (v_move rfl) hs_) ?_
    refine e_fl rfl rfl (fun hs_ => PF.mk rfl (v_move rfl) hs_) ?_
    refine e_fl rfl rfl (fun hs_ => PF.mk rfl (v_move rfl) hs_) ?_
    refine e_fl rfl rfl (fun hs_ => PF.mk rfl (v_indexA Try.underlying26 sz49 rfl rfl) hs_) ?_
    refine e_fl rfl rfl (fun hs_ => PF.mk rfl (v_fieldI 1 Try.underlying49 rfl rfl fz47 rfl (by assumption)) hs_) ?_
    refine e_fl rfl rfl (fun hs_ => PF.mk rfl (v_loadI (k := 1) ty47 hat rfl rfl rfl) hs_) ?_
    refine e_fl rfl rfl (fun hs_ => PF.mk rfl (v_move rfl) hs_) ?_
    refine e_fl rfl rfl (fun hs_ => PF.mk rfl (v_move rfl) hs_) ?_
    refine e_fl rfl rfl (fun hs_ => PF.mk rfl (v_indexA Try.underlying26 sz49 rfl rfl) hs_) ?_
    refine e_fl rfl rfl (fun hs_ => PF.mk rfl (v_fieldI 3 Try.underlying49 rfl rfl fz47 rfl (by assumption)) hs_) ?_
    refine e_fl rfl rfl (fun hs_ => PF.mk rfl (v_loadI (k := 3) ty47 hat rfl rfl rfl) hs_) ?_
    refine e_eff rfl (by intro cs b hc; cases hc) (by intro c hc; cases hc) ?_
    refine o_buildSlice (xs := [(Go.Operand.tmp 16), (Go.Operand.tmp 21)]) Try.underlying45 bs47 rfl rfl rfl rfl rfl (fun b22 => ?_)
    refine ops_nil ?_
    refine e_next rfl side_allA ?_
    refine e_eff rfl (by intro cs b hc; cases hc) (by intro c hc; cases hc) ?_
    refine o_append Try.underlying45 bs47 rfl rfl rfl (fun v' => by repeat (first | exact Swap.here | apply Swap.there)) (Src.ofRow (by repeat (first | exact Has.here | apply Has.there)) rfl) (by first | rfl | omega | simp) (by simp [cat, cellsL, Value.oneCell']) (by omega) (by omega) (fun a23 c23 => ?_)
    refine ops_nil ?_
    refine e_next rfl side_allA ?_
    refine e_eff rfl (by intro cs b hc; cases hc) (by intro c hc; cases hc) ?_
    refine op_v (v_assign rfl) rfl ?_
    refine ops_nil ?_
    refine e_next rfl (side_nil (by kernel_rfl)) ?_
    refine e_done ?_
    refine post_out ?_
    refine post_next ?_
    refine code_region ?_
    refine op_v (v_move rfl) rfl ?_
    refine op_v (v_addb rfl rfl rfl (by omega)) rfl ?_
    refine op_v (v_assign rfl) rfl ?_
    refine ops_nil ?_
    refine PostJ.view (View.drop Del.here) ?_
    refine post_again (c.length - (k + 1)) [(0, .slice ad c.length c0), (3, .slice a23 (2 * (k + 1)) c23), (4, .int .i64 (k + 1 : Nat))] (by omega) ⟨k + 1, a23, c23, ys ++ [.int .i64 c[k].l.head, .slice la c[k].l.args.length lc, .int .i64 c[k].r.head, .slice ra c[k].r.args.length rc], rfl, hlt, rfl, rfl, ?_, ?_⟩ ⟨rfl, rfl, rfl, trivial⟩
    · simp [cat, cellsL]; omega
    · rw [sidesL_take c k hlt]
      exact hys.app ⟨[.int .i64 c[k].l.head, .slice la c[k].l.args.length lc], [.int .i64 c[k].r.head, .slice ra c[k].r.args.length rc], rfl, ⟨la, lc, rfl, hl⟩, RowE.single ⟨ra, rc, rfl, hr⟩⟩
  · have hge : k = c.length := by simp at hc0; omega
    subst hge
    rw [List.take_length] at hys
    refine code_exit ?_
    refine post_exit_then ?_
    refine post_exit_then ?_
    refine post_exit ?_
    refine post_next ?_
    refine code_seq ?_
    refine code_region ?_
    refine OpsJ.freezeRow Del.here ?_
    rintro I24 a24 c24 hI24 hq hc24 hl24 hcells24
    cases hq
    refine op_v (v_move rfl) rfl ?_
    refine op_v (v_assign rfl) rfl ?_
    refine ops_nil ?_
    refine post_next ?_
    refine code_ret ?_
    refine post_ret (rs := [.tmp 2]) rfl (List.Perm.refl _) (.cons (.tmp rfl) .nil) (List.nil_sublist _) ?_
    refine ⟨?_, rfl⟩
    have h2 := sidesL_len c
    have := RowE.repS (c := c') (hys.mono hI24) hcells24 (by omega) (by omega)
    rw [h2] at this; exact this
theorem RVars05_does {I : Imm} {v : Value} {ts : List T} (hs : RepS I v ts) (hbig : sizeL ts ≤ 10000) :
    Does Try.prog 67 [v] I [] (fun v I' δ' => RInts I' v (uvL [] ts) ∧ δ' = []) := by
  obtain ⟨sa, sc, rfl⟩ := hs.shape
  refine Does.intro Try.func67 rfl Try.ntmps67 rfl fun w0 => ?_
  refine code_seq ?_
  refine code_region ?_
  refine op_v (v_assign rfl) rfl ?_
  refine ops_nil ?_
  refine post_next ?_
  refine code_seq ?_
  refine code_region ?_
  refine op_v (v_move rfl) rfl ?_
  refine op_v (v_build bl47 rfl rfl) rfl ?_
  refine o_alloc z47 rfl rfl (fun b3 => ?_)
  refine o_store ty47 rfl rfl rfl rfl rfl (by repeat (first | exact Swap.here | apply Swap.there)) rfl ?_
  refine ops_nil ?_
  refine post_next ?_
  refine code_seq ?_
  refine code_region ?_
  refine op_v (v_loadA ty47 rfl rfl) rfl ?_
  refine op_call pl113 rfl rfl ((RVars2_does _ (.mk 0 ts) (Nat.le_refl _) (by simp [T.size]; omega) _ _ (RepT.mk _ (.mk 0 ts) (by unfold InR; simp [T.head]) hs))) Parts.none ?_
  rintro v7 I7 _ hI7 ⟨hv7, rfl⟩
  have e : uvT (.mk 0 ts) = uvL [] ts := by simp [uvT]
  rw [e] at hv7
  refine op_v (v_assign rfl) rfl ?_
  refine ops_nil ?_
  refine post_next ?_
  refine code_ret ?_
  refine post_ret (rs := [.tmp 2]) rfl (List.Perm.refl _) (.cons (.tmp rfl) .nil) (List.nil_sublist _) ?_
  exact ⟨hv7, rfl⟩
theorem npow_le {s k n : Nat} (hs : 1 ≤ s) (h : k ≤ n) : s ^ k ≤ s ^ n := Nat.pow_le_pow_right hs h
theorem power2_does {I : Imm} {s : Nat} {n : Nat} (h0 : 1 ≤ s) (h1 : s ≤ 4) (hb : s ^ n ≤ 1000) (hn : n ≤ 100000) :
    Does Try.prog 65 [.int .i64 s, .int .i64 n] I [] (fun v _ δ' => v = .int .i64 ((s ^ n : Nat) : Int) ∧ δ' = []) := by
  refine Does.intro Try.func65 rfl Try.ntmps65 rfl fun w0 => ?_
  refine code_seq ?_
  refine code_region ?_
  refine op_v (v_assign rfl) rfl ?_
  refine ops_nil ?_
  refine post_next ?_
  refine code_seq ?_
  refine code_region ?_
  refine op_v (v_assign rfl) rfl ?_
  refine ops_nil ?_
  refine post_next ?_
  refine code_seq ?_
  refine code_seq ?_
  refine code_region ?_
  refine op_v (v_assign rfl) rfl ?_
  refine ops_nil ?_
  refine post_next ?_
  refine code_block ?_
  refine code_loop (fun m σ' I' δ' => ∃ k : Nat, m = n - k ∧ k ≤ n ∧ σ' = [(0, .int .i64 s), (1, .int .i64 n), (5, .int .i64 ((s ^ k : Nat) : Int)), (6, .int .i64 k)] ∧ I = I' ∧ δ' = []) n [(0, .int .i64 s), (1, .int .i64 n), (5, .int .i64 1), (6, .int .i64 (0 : Nat))] ⟨0, rfl, Nat.zero_le _, by simp, rfl, rfl⟩ ⟨rfl, rfl, rfl, rfl, trivial⟩ ?_
  rintro m _ _ _ ⟨k, rfl, hk, rfl, rfl, rfl⟩
  refine code_seq ?_
  refine code_seq ?_
  refine code_region ?_
  refine op_v (v_move rfl) rfl ?_
  refine op_v (v_move rfl) rfl ?_
  refine op_v (v_cmp rfl rfl rfl) rfl ?_
  refine ops_nil ?_
  refine post_next ?_
  refine code_cond rfl (fun hc0 => ?_) (fun hc0 => ?_)
  · have hlt : k < n := by simpa using hc0
    have hp := npow_le h0 (show k + 1 ≤ n from hlt)
    have hp2 : ((s ^ k : Nat) : Int) * (s : Int) = ((s ^ (k + 1) : Nat) : Int) := by rw [Nat.pow_succ, Int.natCast_mul]
    refine code_skip ?_
    refine post_next ?_
    refine code_seq ?_
    refine code_block ?_
    refine code_region ?_
    refine op_v (v_move rfl) rfl ?_
    refine op_v (v_move rfl) rfl ?_
    refine op_v (v_mulb (c := ((s ^ (k + 1) : Nat) : Int)) rfl rfl hp2 ⟨by omega, by omega⟩) rfl ?_
    refine op_v (v_assign rfl) rfl ?_
    refine ops_nil ?_
    refine post_out ?_
    refine post_next ?_
    refine code_region ?_
    refine op_v (v_move rfl) rfl ?_
    refine op_v (v_addb rfl rfl rfl (by omega)) rfl ?_
    refine op_v (v_assign rfl) rfl ?_
    refine ops_nil ?_
    refine post_again (n - (k + 1)) [(0, .int .i64 s), (1, .int .i64 n), (5, .int .i64 ((s ^ (k + 1) : Nat) : Int)), (6, .int .i64 (k + 1 : Nat))] (by omega) ⟨k + 1, rfl, hlt, rfl, rfl, rfl⟩ ⟨rfl, rfl, rfl, rfl, trivial⟩
  · have hge : k = n := by simp at hc0; omega
    subst hge
    refine code_exit ?_
    refine post_exit_then ?_
    refine post_exit_then ?_
    refine post_exit ?_
    refine post_next ?_
    refine code_seq ?_
    refine code_region ?_
    refine op_v (v_move rfl) rfl ?_
    refine op_v (v_assign rfl) rfl ?_
    refine ops_nil ?_
    refine post_next ?_
    refine code_ret ?_
    refine post_ret (rs := [.tmp 4]) rfl (List.Perm.refl _) (.cons (.tmp rfl) .nil) (List.nil_sublist _) ?_
    exact ⟨rfl, rfl⟩
theorem WMany_does {I : Imm} {vw v : Value} {w : Wd} {c : List Li} (hw : RepW I vw w) (h1 : 1 ≤ w.size) (h2 : w.size ≤ 4) (hv : RepC I v c) (hbig : sizeL (sidesL c) ≤ 10000) :
    Does Try.prog 21 [vw, v, .int .i64 700] I [] (fun v I' δ' => (∃ m : Nat, v = .int .i64 (m : Int) ∧ 1 ≤ m ∧ m ≤ 701 ∧ (m ≤ 700 → w.size.toNat ^ (uvL [] (sidesL c)).length ≤ 700)) ∧ δ' = []) := by
  obtain ⟨A, wc, rfl, _, _⟩ := hw.open
  obtain ⟨s, hs⟩ : ∃ s : Nat, s = w.size.toNat := ⟨_, rfl⟩
  have hws : w.size = (s : Int) := by omega
  rw [← hs, hws]
  refine Does.intro Try.func21 rfl Try.ntmps21 rfl fun w0 => ?_
  refine code_seq ?_
  refine code_region ?_
  refine o_box rfl rfl rfl (fun b3 => ?_)
  refine op_v (v_assign rfl) rfl ?_
  refine ops_nil ?_
  refine post_next ?_
  refine code_seq ?_
  refine code_region ?_
  refine op_v (v_assign rfl) rfl ?_
  refine ops_nil ?_
  refine post_next ?_
  refine code_seq ?_
  refine code_region ?_
  refine op_v (v_move rfl) rfl ?_
  refine op_call pl68 rfl rfl ((Rsides_does (hv.mono Imm.leA))) Parts.none ?_
  rintro v11 I11 _ hI11 ⟨hs11, rfl⟩
  refine op_call pl67 rfl rfl ((RVars05_does hs11 hbig)) Parts.none ?_
  rintro v12 I12 _ hI12 ⟨hv12, rfl⟩
  have hvl := hv12.len
  obtain ⟨V, hV⟩ : ∃ V, V = uvL [] (sidesL c) := ⟨_, rfl⟩
  rw [← hV] at hv12 hvl
  obtain ⟨va, vc, rfl⟩ := hv12.shape
  refine op_v (v_assign rfl) rfl ?_
  refine ops_nil ?_
  refine post_next ?_
  refine code_seq ?_
  refine code_seq ?_
  refine code_region ?_
  refine op_v (v_assign rfl) rfl ?_
  refine ops_nil ?_
  refine post_next ?_
  refine code_block ?_
  refine code_loop (fun m σ' I' δ' => ∃ i : Nat, m = V.length - i ∧ i ≤ V.length ∧ σ' = [(2, .int .i64 700), (3, .pointer (some ⟨b3, 0, none⟩)), (7, .int .i64 ((s ^ i : Nat) : Int)), (8, .slice va V.length vc), (9, .int .i64 i)] ∧ I12.le I' ∧ δ' = [.box b3 25 [.int .i64 s, .slice A w.rows.length wc]] ∧ s ^ i ≤ 2800) V.length [(2, .int .i64 700), (3, .pointer (some ⟨b3, 0, none⟩)), (7, .int .i64 1), (8, .slice va V.length vc), (9, .int .i64 (0 : Nat))] ⟨0, rfl, Nat.zero_le _, by simp, Imm.le_refl _, rfl, by simp⟩ ⟨rfl, rfl, rfl, rfl, rfl, trivial⟩ ?_
  rintro m _ I0 _ ⟨i, rfl, hi, rfl, hI0, rfl, hb⟩
  have hpos : 1 ≤ s ^ i := Nat.one_le_pow _ _ (by omega)
  refine code_seq ?_
  refine code_seq ?_
  refine code_region ?_
  refine op_v (v_move rfl) rfl ?_
  refine op_v (v_move rfl) rfl ?_
  refine op_v (v_len Try.underlying62 rfl) rfl ?_
  by_cases h16 : i < V.length
  · refine op_v (v_cmptA rfl rfl rfl) rfl ?_
    refine op_v (v_move rfl) rfl ?_
    refine op_want rfl rfl ?_
    refine op_v (v_move rfl) rfl ?_
    refine op_want rfl rfl ?_
    refine op_v (v_move rfl) rfl ?_
    by_cases h20 : s ^ i ≤ 700
    · have hp2 : ((s ^ i : Nat) : Int) * (s : Int) = ((s ^ (i + 1) : Nat) : Int) := by rw [Nat.pow_succ, Int.natCast_mul]
      have hb2 : s ^ (i + 1) ≤ 2800 := by rw [Nat.pow_succ]; have := Nat.mul_le_mul h20 (show s ≤ 4 by omega); omega
      refine op_want rfl rfl ?_
      refine op_v (v_cmpt rfl rfl rfl (by omega)) rfl ?_
      refine op_v (v_pickt rfl rfl) rfl ?_
      refine ops_nil ?_
      refine post_next ?_
      refine code_cond_t rfl ?_
      refine code_skip ?_
      refine post_next ?_
      refine code_seq ?_
      refine code_block ?_
      refine code_region ?_
      refine op_v (v_move rfl) rfl ?_
      refine op_v (v_fieldB 0 Try.underlying25 rfl rfl fz3 rfl) rfl ?_
      refine op_v (v_loadA ty3 rfl rfl) rfl ?_
      refine op_v (v_mulb (c := ((s ^ (i + 1) : Nat) : Int)) rfl rfl hp2 ⟨by omega, by omega⟩) rfl ?_
      refine op_v (v_assign rfl) rfl ?_
      refine ops_nil ?_
      refine post_out ?_
      refine post_next ?_
      refine code_region ?_
      refine op_v (v_move rfl) rfl ?_
      refine op_v (v_addb rfl rfl rfl (by omega)) rfl ?_
      refine op_v (v_assign rfl) rfl ?_
      refine ops_nil ?_
      refine post_again (V.length - (i + 1)) [(2, .int .i64 700), (3, .pointer (some ⟨b3, 0, none⟩)), (7, .int .i64 ((s ^ (i + 1) : Nat) : Int)), (8, .slice va V.length vc), (9, .int .i64 (i + 1 : Nat))] (by omega) ⟨i + 1, rfl, h16, rfl, Imm.leA, rfl, hb2⟩ ⟨rfl, rfl, rfl, rfl, rfl, trivial⟩
    · refine op_want rfl rfl ?_
      refine op_v (v_cmpf rfl rfl rfl (by omega)) rfl ?_
      refine op_v (v_pickt rfl rfl) rfl ?_
      refine ops_nil ?_
      refine post_next ?_
      refine code_cond_f rfl ?_
      refine code_exit ?_
      refine post_exit_then ?_
      refine post_exit_then ?_
      refine post_exit ?_
      refine post_next ?_
      refine code_seq ?_
      refine code_region ?_
      refine op_v (v_move rfl) rfl ?_
      refine op_v (v_move rfl) rfl ?_
      refine op_v (v_addb rfl rfl rfl (by omega)) rfl ?_
      refine op_v (v_min rfl rfl) rfl ?_
      refine op_v (v_assign rfl) rfl ?_
      refine ops_nil ?_
      refine post_next ?_
      refine code_ret ?_
      refine post_ret (rs := [.tmp 6]) rfl (List.Perm.refl _) (.cons (.tmp rfl) .nil) (List.nil_sublist _) ?_
      exact ⟨⟨min (s ^ i) 701, by show Value.int .i64 (min ((s ^ i : Nat) : Int) 701) = _; congr 1; omega, by omega, by omega, fun h => by omega⟩, rfl⟩
  · refine op_v (v_cmpfA rfl rfl rfl) rfl ?_
    refine op_v (v_move rfl) rfl ?_
    refine op_skip rfl rfl (by simp [undef]) rfl ?_
    refine op_skip rfl rfl (by simp [undef]) rfl ?_
    refine op_skip rfl rfl (by simp [undef]) rfl ?_
    refine op_v (v_pickf rfl rfl) rfl ?_
    refine ops_nil ?_
    refine post_next ?_
    refine code_cond_f rfl ?_
    refine code_exit ?_
    refine post_exit_then ?_
    refine post_exit_then ?_
    refine post_exit ?_
    refine post_next ?_
    refine code_seq ?_
    refine code_region ?_
    refine op_v (v_move rfl) rfl ?_
    refine op_v (v_move rfl) rfl ?_
    refine op_v (v_addb rfl rfl rfl (by omega)) rfl ?_
    refine op_v (v_min rfl rfl) rfl ?_
    refine op_v (v_assign rfl) rfl ?_
    refine ops_nil ?_
    refine post_next ?_
    refine code_ret ?_
    refine post_ret (rs := [.tmp 6]) rfl (List.Perm.refl _) (.cons (.tmp rfl) .nil) (List.nil_sublist _) ?_
    have hil : i = V.length := by omega
    exact ⟨⟨min (s ^ i) 701, by show Value.int .i64 (min ((s ^ i : Nat) : Int) 701) = _; congr 1; omega, by omega, by omega, fun h => by rw [← hV, ← hil]; omega⟩, rfl⟩
/-! ### what variables are lies in a row of one's own -/
abbrev oRow (A : Option Addr) (n c : Nat) (os : List Int) : Ent := .row (.slice A n c) 3 1 n (os.map (Value.int .i64))
theorem WValR_does {gs : List Sy} {w : Wd} {os : List Int} {n : Nat} (hR : WR gs w) (hol : os.length = n) (hn : n ≤ 1000) (hos : ∀ x ∈ os, 0 ≤ x ∧ x < w.size) {oA : Option Addr} {oC : Nat} : ∀ (m : Nat) (t : T), t.size ≤ m → OkG gs t → ∀ (I : Imm) (vw v : Value), RepW I vw w → RepT I v t →
    Does Try.prog 149 [vw, .slice oA n oC, v] I [oRow oA n oC os] (fun v _ δ' => (v = .int .i64 (wvT w os t) ∧ (trL gs t = false → 0 ≤ wvT w os t ∧ wvT w os t < w.size)) ∧ δ' = [oRow oA n oC os]) := by
  intro m
  induction m with
  | zero => intro t h; have := t.size_pos; omega
  | succ m ih =>
    intro t hm0 hO I vw v hw hv
    have hw0 := hw
    obtain ⟨A, c, rfl, hlen, hatR⟩ := hw.open
    obtain ⟨h, ts⟩ := t
    obtain ⟨ad, ac, ss, rfl, hr, hc, hb, hat, hsub⟩ := hv.elim
    have hsz : (T.mk h ts).size = 1 + sizeL ts := by simp [T.size]
    have hhd := hO.heads (true, .mk h ts) (by rw [visT_eq]; exact List.mem_cons_self ..)
    have hh := (chk_vis hO.chk (true, .mk h ts) (by rw [visT_eq]; exact List.mem_cons_self ..)).2
    simp only at hhd hh
    change h < 0 ∨ (0 ≤ h ∧ h < gs.length) at hhd
    change -256 ≤ h at hh
    have h8 : ts.length ≤ 400 := by have := chkT_size hO.chk; have := sizeL_len ts; omega
    have hlo := hR.lo
    have hhi := hR.hi
    have hch : ∀ i (hi : i < ts.length), OkG gs ts[i] ∧ trL gs ts[i] = false := fun i hi => ⟨(hO.child i hi).1, arg_thing hO i hi⟩
    refine Does.intro Try.func149 rfl Try.ntmps149 rfl fun w0 => ?_
    refine code_seq ?_
    refine code_region ?_
    refine o_box rfl rfl rfl (fun b3 => ?_)
    refine o_box rfl rfl rfl (fun b5 => ?_)
    refine op_v (v_assign rfl) rfl ?_
    refine ops_nil ?_
    refine post_next ?_
    refine code_seq ?_
    refine code_seq ?_
    refine code_region ?_
    refine op_v (v_fieldB 0 Try.underlying47 rfl rfl fz3 rfl) rfl ?_
    refine op_v (v_loadA ty3 rfl rfl) rfl ?_
    by_cases h12 : h < 0
    · have hval : wvT w os (.mk h ts) = (os[(-1 - h).toNat]?).getD 0 := by simp only [wvT]; rw [if_pos h12]
      refine op_v (v_cmptA rfl rfl rfl) rfl ?_
      refine ops_nil ?_
      refine post_next ?_
      refine code_cond_t rfl ?_
      refine code_seq ?_
      refine code_region ?_
      refine op_v (v_fieldB 0 Try.underlying47 rfl rfl fz3 rfl) rfl ?_
      refine op_v (v_loadA ty3 rfl rfl) rfl ?_
      refine op_v (v_subb rfl rfl rfl (by omega)) rfl ?_
      refine op_v (v_assign rfl) rfl ?_
      refine ops_nil ?_
      refine post_next ?_
      refine code_seq ?_
      refine code_seq ?_
      refine code_region ?_
      refine op_v (v_move rfl) rfl ?_
      refine op_v (v_move rfl) rfl ?_
      refine op_v (v_len Try.underlying62 rfl) rfl ?_
      by_cases h19 : -1 - h < (n : Int)
      · have hltv : (-1 - h).toNat < os.length := by omega
        have hval2 : wvT w os (.mk h ts) = os[(-1 - h).toNat] := by rw [hval, List.getElem?_eq_getElem hltv]; rfl
        have hrv := hos _ (List.getElem_mem hltv)
        refine op_v (v_cmptA rfl rfl rfl) rfl ?_
        refine ops_nil ?_
        refine post_next ?_
        refine code_cond_t rfl ?_
        refine code_seq ?_
        refine code_region ?_
        refine OpsJ.rowSome (Has.there (Has.there Has.here)) (by omega) (fun hA hcr => ?_)
        refine op_v (v_move rfl) rfl ?_
        refine op_v (v_move rfl) rfl ?_
        refine op_v (v_indexIA Try.underlying62 sz3 rfl rfl) rfl ?_
        refine op_v (v_loadRow ty3 rfl (Has.there (Has.there Has.here)) hA (ld_at (cs := os.map (Value.int .i64)) (o := (-1 - h).toNat * 1) (x := .int .i64 os[(-1 - h).toNat]) (by simp [hltv]))) rfl ?_
        refine op_v (v_assign rfl) rfl ?_
        refine ops_nil ?_
        refine post_next ?_
        refine code_ret ?_
        refine post_ret_then ?_
        refine post_ret_then ?_
        refine post_ret (rs := [.tmp 6]) rfl (List.Perm.refl _) (.cons (.tmp rfl) .nil) (List.Sublist.cons _ (List.Sublist.cons _ (List.Sublist.refl _))) ?_
        exact ⟨⟨by rw [hval2]; rfl, fun _ => by rw [hval2]; exact hrv⟩, rfl⟩
      · refine op_v (v_cmpfA rfl rfl rfl) rfl ?_
        refine ops_nil ?_
        refine post_next ?_
        refine code_cond_f rfl ?_
        refine code_skip ?_
        refine post_next ?_
        refine code_seq ?_
        refine code_region ?_
        refine op_v (v_assign rfl) rfl ?_
        refine ops_nil ?_
        refine post_next ?_
        refine code_ret ?_
        refine post_ret_then ?_
        refine post_ret (rs := [.tmp 6]) rfl (List.Perm.refl _) (.cons (.tmp rfl) .nil) (List.Sublist.cons _ (List.Sublist.cons _ (List.Sublist.refl _))) ?_
        have hval2 : wvT w os (.mk h ts) = 0 := by rw [hval, List.getElem?_eq_none (by omega)]; rfl
        exact ⟨⟨by rw [hval2]; rfl, fun _ => by rw [hval2]; omega⟩, rfl⟩
    · have hlt0 : h.toNat < gs.length := by omega
      have hltr : h.toNat < w.rows.length := by rw [hR.len]; exact hlt0
      obtain ⟨ed, ec, hate, hre⟩ := hatR h.toNat hltr
      have hs1 := hate.isSome
      obtain ⟨har4, harl, hrow⟩ := hR.each h.toNat hlt0
      have har0 := right_ar hO.right h.toNat hlt0
      have hlar : (ts.length : Int) = gs[h.toNat].ar := by { have h1 := hO.arity (show 0 ≤ (T.mk h ts).head by show 0 ≤ h; omega); change (ts.length : Int) = arG gs h at h1; rw [arG_at (show 0 ≤ h by omega) (by omega)] at h1; exact h1 }
      have hl4 : ts.length ≤ 4 := by omega
      have hpow : ∀ k : Nat, k ≤ 4 → 1 ≤ w.size ^ k ∧ w.size ^ k ≤ 256 := fun k hk => by
        have h1 := pow_bound hlo hhi k hk
        have h2 : (4 : Int) ^ k ≤ 256 := by rcases k with _ | _ | _ | _ | _ | k <;> first | decide | omega
        omega
      refine op_v (v_cmpfA rfl rfl rfl) rfl ?_
      refine ops_nil ?_
      refine post_next ?_
      refine code_cond_f rfl ?_
      refine code_skip ?_
      refine post_next ?_
      refine code_seq ?_
      refine code_region ?_
      refine op_v (v_assign rfl) rfl ?_
      refine ops_nil ?_
      refine post_next ?_
      refine code_seq ?_
      refine code_seq ?_
      refine code_region ?_
      refine op_v (v_assign rfl) rfl ?_
      refine ops_nil ?_
      refine post_next ?_
      refine code_block ?_
      refine code_loop (fun m σ' I' δ' => ∃ k : Nat, m = ts.length - k ∧ k ≤ ts.length ∧ σ' = [(1, .slice oA n oC), (3, .pointer (some ⟨b3, 0, none⟩)), (5, .pointer (some ⟨b5, 0, none⟩)), (8, .int .i64 (wvL w os 0 (ts.take k))), (9, .int .i64 k)] ∧ I.le I' ∧ δ' = [.box b5 47 [.int .i64 h, .slice ad ts.length ac], .box b3 25 [.int .i64 w.size, .slice A w.rows.length c], oRow oA n oC os] ∧ 0 ≤ wvL w os 0 (ts.take k) ∧ wvL w os 0 (ts.take k) < w.size ^ k) ts.length [(1, .slice oA n oC), (3, .pointer (some ⟨b3, 0, none⟩)), (5, .pointer (some ⟨b5, 0, none⟩)), (8, .int .i64 0), (9, .int .i64 (0 : Nat))] ⟨0, rfl, Nat.zero_le _, by simp [wvL], Imm.le_refl _, rfl, by simp [wvL], by simp [wvL]⟩ ⟨rfl, rfl, rfl, rfl, rfl, trivial⟩ ?_
      rintro m _ I1 _ ⟨k, rfl, hk, rfl, hI1, rfl, hp0, hp1⟩
      refine code_seq ?_
      refine code_seq ?_
      refine code_region ?_
      refine op_v (v_move rfl) rfl ?_
      refine op_v (v_fieldB 1 Try.underlying47 rfl rfl fz45 rfl) rfl ?_
      refine op_v (v_loadA ty45 rfl rfl) rfl ?_
      refine op_v (v_len Try.underlying45 rfl) rfl ?_
      refine op_v (v_cmp rfl rfl rfl) rfl ?_
      refine ops_nil ?_
      refine post_next ?_
      refine code_cond rfl (fun hc2 => ?_) (fun hc2 => ?_)
      · have hlt : k < ts.length := by simpa using hc2
        have hs2 := (hat k hlt).isSome
        have hm := sizeL_mem ts k hlt
        have hpk := hpow k (by omega)
        have hpk1 := hpow (k + 1) (by omega)
        have hmul0 : 0 ≤ wvL w os 0 (ts.take k) * w.size := Int.mul_nonneg hp0 (by omega)
        have hmul1 : wvL w os 0 (ts.take k) * w.size + w.size ≤ w.size ^ (k + 1) := by
          have h9 : (wvL w os 0 (ts.take k) + 1) * w.size ≤ w.size ^ k * w.size := Int.mul_le_mul_of_nonneg_right (by omega) (by omega)
          rw [Int.add_mul, Int.one_mul] at h9
          rw [Int.pow_succ]; exact h9
        refine code_skip ?_
        refine post_next ?_
        refine code_seq ?_
        refine code_block ?_
        refine code_draw (.fl 0 (.fl 1 (.fl 2 (.fl 3 (.fl 4 (.fl 5 (.fl 6 (.fl 7 (.fl 8 (.fl 9 (.fl 10 (.ef 11 (.fl 12 (.ef 13 .done)))))))))))))) (fun _ => _) mixed (by kernel_rfl) (by kernel_rfl) (fun _ => (List.Sublist.refl _)) ?_
        refine e_fl rfl rfl (fun hs_ => PF.mk rfl (v_move rfl) hs_) ?_
        refine e_fl rfl rfl (fun hs_ => PF.mk rfl (v_fieldB 0 Try.underlying25 rfl rfl fz3 rfl) hs_) ?_
        refine e_fl rfl rfl (fun hs_ => PF.mk rfl (v_loadA ty3 rfl rfl) hs_) ?_
        refine e_fl rfl rfl (fun hs_ => PF.mk rfl (v_mulb (c := wvL w os 0 (ts.take k) * w.size) rfl rfl rfl ⟨by omega, by omega⟩) hs_) ?_
        refine e_fl rfl rfl (fun hs_ => PF.mk rfl (v_loadA ty25 rfl rfl) hs_) ?_
        refine e_fl rfl rfl (fun hs_ => PF.mk rfl (v_move rfl) hs_) ?_
        refine e_fl rfl rfl (fun hs_ => PF.mk rfl (v_fieldB 1 Try.underlying47 rfl rfl fz45 rfl) hs_) ?_
        refine e_fl rfl rfl (fun hs_ => PF.mk rfl (v_loadA ty45 rfl rfl) hs_) ?_
        refine e_fl rfl rfl (fun hs_ => PF.mk rfl (v_move rfl) hs_) ?_
        refine e_fl rfl rfl (fun hs_ => PF.mk rfl (v_indexA Try.underlying45 sz47 rfl rfl) hs_) ?_
        refine e_fl rfl rfl (fun hs_ => PF.mk rfl (v_loadI0 ty47 ((hat k hlt).mono hI1) rfl rfl rfl) hs_) ?_
        refine e_eff rfl (by intro cs b hc; cases hc) (by intro c hc; cases hc) ?_
        refine op_call pl149 rfl rfl ((ih ts[k] (by omega) (hch k hlt).1 _ _ _ (hw0.mono hI1) ((hsub k hlt).mono hI1))) (Parts.one (Del.there (Del.there Del.here))) ?_
        rintro _ I42 _ hI42 ⟨⟨rfl, hq42⟩, rfl⟩
        have hq := hq42 (hch k hlt).2
        refine OpsJ.view (View.perm (List.perm_append_comm (l₁ := [_]) (l₂ := [_, _]))) ?_
        refine ops_nil ?_
        refine e_next rfl side_allA ?_
        refine e_fl rfl rfl (fun hs_ => PF.mk rfl (v_addb rfl rfl rfl (by omega)) hs_) ?_
        refine e_eff rfl (by intro cs b hc; cases hc) (by intro c hc; cases hc) ?_
        refine op_v (v_assign rfl) rfl ?_
        refine ops_nil ?_
        refine e_next rfl (side_nil (by kernel_rfl)) ?_
        refine e_done ?_
        refine post_out ?_
        refine post_next ?_
        refine code_region ?_
        refine op_v (v_move rfl) rfl ?_
        refine op_v (v_addb rfl rfl rfl (by omega)) rfl ?_
        refine op_v (v_assign rfl) rfl ?_
        refine ops_nil ?_
        refine post_again (ts.length - (k + 1)) [(1, .slice oA n oC), (3, .pointer (some ⟨b3, 0, none⟩)), (5, .pointer (some ⟨b5, 0, none⟩)), (8, .int .i64 (wvL w os 0 (ts.take k) * w.size + wvT w os ts[k])), (9, .int .i64 (k + 1 : Nat))] (by omega) ⟨k + 1, rfl, hlt, by rw [wvL_take w os ts k hlt], Imm.leA, rfl, by rw [wvL_take w os ts k hlt]; omega, by rw [wvL_take w os ts k hlt]; omega⟩ ⟨rfl, rfl, rfl, rfl, rfl, trivial⟩
      · have hge : k = ts.length := by simp at hc2; omega
        refine code_exit ?_
        refine post_exit_then ?_
        refine post_exit_then ?_
        refine post_exit ?_
        refine post_next ?_
        refine code_seq ?_
        refine code_region ?_
        subst hge
        rw [List.take_length] at hp0 hp1 ⊢
        have hidx : (wvL w os 0 ts).toNat < (w.rows[h.toNat]'hltr).length := by
          have e : gs[h.toNat].ar.toNat = ts.length := by omega
          rw [e] at harl; omega
        have hs3 := ints_some hre.cells _ hidx
        have hval : wvT w os (.mk h ts) = (w.rows[h.toNat]'hltr)[(wvL w os 0 ts).toNat]'hidx := by simp only [wvT]; rw [if_neg h12, List.getElem?_eq_getElem hltr]; simp [List.getD_eq_getElem?_getD, List.getElem?_eq_getElem hidx]
        have hin := hrow _ (List.getElem_mem hidx)
        refine op_v (v_fieldB 1 Try.underlying25 rfl rfl fz23 rfl) rfl ?_
        refine op_v (v_loadA ty23 rfl rfl) rfl ?_
        refine op_v (v_fieldB 0 Try.underlying47 rfl rfl fz3 rfl) rfl ?_
        refine op_v (v_loadA ty3 rfl rfl) rfl ?_
        refine op_v (v_indexIA Try.underlying23 sz62 rfl rfl) rfl ?_
        refine op_v (v_loadI0 ty62 (hate.mono Imm.leA) rfl rfl rfl) rfl ?_
        refine op_v (v_move rfl) rfl ?_
        refine op_v (v_indexIA Try.underlying62 sz3 rfl rfl) rfl ?_
        refine op_v (v_loadI0 ty3 ((ints_at hre.cells _ hidx).mono Imm.leA) rfl rfl rfl) rfl ?_
        refine op_v (v_assign rfl) rfl ?_
        refine ops_nil ?_
        refine post_next ?_
        refine code_ret ?_
        refine post_ret (rs := [.tmp 6]) rfl (List.Perm.refl _) (.cons (.tmp rfl) .nil) (List.Sublist.cons _ (List.Sublist.cons _ (List.Sublist.refl _))) ?_
        refine ⟨⟨by rw [hval]; rfl, fun htr => ?_⟩, rfl⟩
        rw [hval]
        refine ⟨hin.1, hin.2 ?_⟩
        unfold trL at htr
        rw [show (T.mk h ts).head = h from rfl, trG_at (by omega) (by omega), show decide (0 ≤ h) = true by simp; omega, Bool.true_and] at htr
        exact htr
theorem WLitR_does {gs : List Sy} {w : Wd} {os : List Int} {n : Nat} {x : Li} (hR : WR gs w) (hol : os.length = n) (hn : n ≤ 1000) (hos : ∀ x ∈ os, 0 ≤ x ∧ x < w.size) (h0 : litG gs x = 0) {oA : Option Addr} {oC : Nat} {I : Imm} {vw va : Value} (hw : RepW I vw w) (ha : RepL I va x) :
    Does Try.prog 114 [vw, .slice oA n oC, va] I [oRow oA n oC os] (fun v _ δ' => v = .bool (litWd w os x) ∧ δ' = [oRow oA n oC os]) := by
  have hw0 := hw
  obtain ⟨A, c, rfl, hlen, hatR⟩ := hw.open
  obtain ⟨la, lc, ra, rc, rfl, hl, hr⟩ := ha
  obtain ⟨o1, o2⟩ := litG_ok h0
  refine Does.intro Try.func114 rfl Try.ntmps114 rfl fun w0 => ?_
  refine code_seq ?_
  refine code_region ?_
  refine o_box rfl rfl rfl (fun b3 => ?_)
  refine o_box rfl rfl rfl (fun b5 => ?_)
  refine op_v (v_assign rfl) rfl ?_
  refine ops_nil ?_
  refine post_next ?_
  refine code_seq ?_
  refine code_draw (.fl 0 (.fl 1 (.fl 2 (.fl 3 (.fl 5 (.fl 6 (.fl 7 (.fl 8 (.fl 11 (.fl 12 (.ef 4 (.ef 9 (.fl 10 (.fl 13 (.ef 14 .done))))))))))))))) (fun _ => _) mixed (by kernel_rfl) (by kernel_rfl) (fun _ => (List.Sublist.refl _)) ?_
  refine e_fl rfl rfl (fun hs_ => PF.mk rfl (v_loadA ty25 rfl rfl) hs_) ?_
  refine e_fl rfl rfl (fun hs_ => PF.mk rfl (v_move rfl) hs_) ?_
  refine e_fl rfl rfl (fun hs_ => PF.mk rfl (v_fieldB 1 Try.underlying49 rfl rfl fz47 rfl) hs_) ?_
  refine e_fl rfl rfl (fun hs_ => PF.mk rfl (v_loadA ty47 rfl rfl) hs_) ?_
  refine e_fl rfl rfl (fun hs_ => PF.mk rfl (v_loadA ty25 rfl rfl) hs_) ?_
  refine e_fl rfl rfl (fun hs_ => PF.mk rfl (v_move rfl) hs_) ?_
  refine e_fl rfl rfl (fun hs_ => PF.mk rfl (v_fieldB 3 Try.underlying49 rfl rfl fz47 rfl) hs_) ?_
  refine e_fl rfl rfl (fun hs_ => PF.mk rfl (v_loadA ty47 rfl rfl) hs_) ?_
  refine e_fl rfl rfl (fun hs_ => PF.mk rfl (v_fieldB 0 Try.underlying49 rfl rfl fz4 rfl) hs_) ?_
  refine e_fl rfl rfl (fun hs_ => PF.mk rfl (v_loadA ty4 rfl rfl) hs_) ?_
  refine e_eff rfl (by intro cs b hc; cases hc) (by intro c hc; cases hc) ?_
  refine op_call pl149 rfl rfl ((WValR_does hR hol hn hos _ _ (Nat.le_refl _) o1 _ _ _ (hw0.mono Imm.leA) (hl.mono Imm.leA))) (Parts.one (Del.there (Del.there Del.here))) ?_
  rintro _ I11 _ hI11 ⟨⟨rfl, _⟩, rfl⟩
  refine OpsJ.view (View.perm (List.perm_append_comm (l₁ := [_]) (l₂ := [_, _]))) ?_
  refine ops_nil ?_
  refine e_next rfl side_allA ?_
  refine e_eff rfl (by intro cs b hc; cases hc) (by intro c hc; cases hc) ?_
  refine op_call pl149 rfl rfl ((WValR_does hR hol hn hos _ _ (Nat.le_refl _) o2 _ _ _ (hw0.mono Imm.leA) (hr.mono Imm.leA))) (Parts.one (Del.there (Del.there Del.here))) ?_
  rintro _ I16 _ hI16 ⟨⟨rfl, _⟩, rfl⟩
  refine OpsJ.view (View.perm (List.perm_append_comm (l₁ := [_]) (l₂ := [_, _]))) ?_
  refine ops_nil ?_
  refine e_next rfl side_allA ?_
  refine e_fl rfl rfl (fun hs_ => PF.mk rfl (v_cmp (z := decide (wvT w os x.l = wvT w os x.r)) rfl rfl rfl) hs_) ?_
  refine e_fl rfl rfl (fun hs_ => PF.mk rfl (v_eqb (z := litWd w os x) Try.underlying4 rfl rfl rfl) hs_) ?_
  refine e_eff rfl (by intro cs b hc; cases hc) (by intro c hc; cases hc) ?_
  refine op_v (v_assign rfl) rfl ?_
  refine ops_nil ?_
  refine e_next rfl (side_nil (by kernel_rfl)) ?_
  refine e_done ?_
  refine post_next ?_
  refine code_ret ?_
  refine post_ret (rs := [.tmp 6]) rfl (List.Perm.refl _) (.cons (.tmp rfl) .nil) (List.Sublist.cons _ (List.Sublist.cons _ (List.Sublist.refl _))) ?_
  exact ⟨rfl, rfl⟩
theorem worldAny_does {gs : List Sy} {w : Wd} {os : List Int} {n : Nat} {cl : List Li} (hR : WR gs w) (hol : os.length = n) (hn : n ≤ 1000) (hos : ∀ x ∈ os, 0 ≤ x ∧ x < w.size) (h0 : ∀ x ∈ cl, litG gs x = 0) {oA : Option Addr} {oC : Nat} {I : Imm} {vw va : Value} (hw : RepW I vw w) (ha : RepC I va cl) :
    Does Try.prog 69 [vw, .slice oA n oC, va] I [oRow oA n oC os] (fun v _ δ' => v = .bool (cl.any fun x => litWd w os x) ∧ δ' = [oRow oA n oC os]) := by
  have hw0 := hw
  obtain ⟨A, c, rfl, hlen, hatR⟩ := hw.open
  obtain ⟨ad, c0, xs, rfl, hcap, hb, hcells, hrow⟩ := ha
  refine Does.intro Try.func69 rfl Try.ntmps69 rfl fun w0 => ?_
  refine code_seq ?_
  refine code_region ?_
  refine o_box rfl rfl rfl (fun b3 => ?_)
  refine op_v (v_assign rfl) rfl ?_
  refine ops_nil ?_
  refine post_next ?_
  refine code_seq ?_
  refine code_seq ?_
  refine code_region ?_
  refine op_v (v_assign rfl) rfl ?_
  refine ops_nil ?_
  refine post_next ?_
  refine code_block ?_
  refine code_loop (fun m σ' I' δ' => ∃ k : Nat, m = cl.length - k ∧ k ≤ cl.length ∧ σ' = [(1, .slice oA n oC), (2, .slice ad cl.length c0), (3, .pointer (some ⟨b3, 0, none⟩)), (7, .int .i64 k)] ∧ I.le I' ∧ δ' = [.box b3 25 [.int .i64 w.size, .slice A w.rows.length c], oRow oA n oC os] ∧ ∀ j (h : j < cl.length), j < k → litWd w os cl[j] = false) cl.length [(1, .slice oA n oC), (2, .slice ad cl.length c0), (3, .pointer (some ⟨b3, 0, none⟩)), (7, .int .i64 (0 : Nat))] ⟨0, rfl, Nat.zero_le _, rfl, Imm.le_refl _, rfl, fun j _ h => by omega⟩ ⟨rfl, rfl, rfl, rfl, trivial⟩ ?_
  rintro m _ I0 _ ⟨k, rfl, hk, rfl, hI0, rfl, hno⟩
  refine code_seq ?_
  refine code_seq ?_
  refine code_region ?_
  refine op_v (v_move rfl) rfl ?_
  refine op_v (v_move rfl) rfl ?_
  refine op_v (v_len Try.underlying26 rfl) rfl ?_
  refine op_v (v_cmp rfl rfl rfl) rfl ?_
  refine ops_nil ?_
  refine post_next ?_
  refine code_cond rfl (fun hc0 => ?_) (fun hc0 => ?_)
  · have hlt : k < cl.length := by simpa using hc0
    obtain ⟨vs, ⟨la, lc, ra, rc, rfl, hl, hr⟩, hat⟩ := hrow.cellsAt hcells hlt
    have hs1 := hat.isSome
    refine code_skip ?_
    refine post_next ?_
    refine code_seq ?_
    refine code_block ?_
    refine code_seq ?_
    refine code_draw (.fl 0 (.fl 1 (.fl 2 (.fl 3 (.fl 4 (.fl 5 (.ef 6 .done))))))) (fun _ => _) mixed (by kernel_rfl) (by kernel_rfl) (fun _ => (List.Sublist.refl _)) ?_
    refine e_fl rfl rfl (fun hs_ => PF.mk rfl (v_loadA ty25 rfl rfl) hs_) ?_
    refine e_fl rfl rfl (fun hs_ => PF.mk rfl (v_move rfl) hs_) ?_
    refine e_fl rfl rfl (fun hs_ => PF.mk rfl (v_move rfl) hs_) ?_
    refine e_fl rfl rfl (fun hs_ => PF.mk rfl (v_move rfl) hs_) ?_
    refine e_fl rfl rfl (fun hs_ => PF.mk rfl (v_indexA Try.underlying26 sz49 rfl rfl) hs_) ?_
    refine e_fl rfl rfl (fun hs_ => PF.mk rfl (v_loadI0 ty49 (hat.mono hI0) rfl rfl rfl) hs_) ?_
    refine e_eff rfl (by intro cs b hc; cases hc) (by intro c hc; cases hc) ?_
    refine op_call pl114 rfl rfl ((WLitR_does (x := cl[k]) hR hol hn hos (h0 _ (List.getElem_mem hlt)) (hw0.mono Imm.leA) ⟨la, lc, ra, rc, rfl, hl.mono Imm.leA, hr.mono Imm.leA⟩)) (Parts.one (Del.there Del.here)) ?_
    rintro _ I20 _ hI20 ⟨rfl, rfl⟩
    refine OpsJ.view (View.perm (List.perm_append_comm (l₁ := [_]) (l₂ := [_]))) ?_
    refine ops_nil ?_
    refine e_next rfl side_allA ?_
    refine e_done ?_
    refine post_next ?_
    refine code_cond rfl (fun hc1 => ?_) (fun hc1 => ?_)
    · have hq : litWd w os cl[k] = true := hc1
      refine code_seq ?_
      refine code_region ?_
      refine op_v (v_assign rfl) rfl ?_
      refine ops_nil ?_
      refine post_next ?_
      refine code_ret ?_
      refine post_ret_block ?_
      refine post_ret_then ?_
      refine post_ret_then ?_
      refine post_ret_block ?_
      refine post_ret_then ?_
      refine post_ret (rs := [.tmp 6]) rfl (List.Perm.refl _) (.cons (.tmp rfl) .nil) (List.Sublist.cons _ (List.Sublist.refl _)) ?_
      exact ⟨by rw [show (cl.any fun x => litWd w os x) = true from List.any_eq_true.2 ⟨_, List.getElem_mem hlt, hq⟩]; rfl, rfl⟩
    · have hq : litWd w os cl[k] = false := hc1
      refine code_skip ?_
      refine post_out ?_
      refine post_next ?_
      refine code_region ?_
      refine op_v (v_move rfl) rfl ?_
      refine op_v (v_addb rfl rfl rfl (by omega)) rfl ?_
      refine op_v (v_assign rfl) rfl ?_
      refine ops_nil ?_
      refine post_again (cl.length - (k + 1)) [(1, .slice oA n oC), (2, .slice ad cl.length c0), (3, .pointer (some ⟨b3, 0, none⟩)), (7, .int .i64 (k + 1 : Nat))] (by omega) ⟨k + 1, rfl, hlt, rfl, Imm.leA, rfl, fun j h hj => ?_⟩ ⟨rfl, rfl, rfl, rfl, trivial⟩
      rcases Nat.lt_or_ge j k with q | q
      · exact hno j h q
      · have e : j = k := by omega
        subst e; exact hq
  · have hge : k = cl.length := by simp at hc0; omega
    refine code_exit ?_
    refine post_exit_then ?_
    refine post_exit_then ?_
    refine post_exit ?_
    refine post_next ?_
    refine code_seq ?_
    refine code_region ?_
    refine op_v (v_assign rfl) rfl ?_
    refine ops_nil ?_
    refine post_next ?_
    refine code_ret ?_
    refine post_ret (rs := [.tmp 6]) rfl (List.Perm.refl _) (.cons (.tmp rfl) .nil) (List.Sublist.cons _ (List.Sublist.refl _)) ?_
    exact ⟨by rw [show (cl.any fun x => litWd w os x) = false from List.any_eq_false.2 fun x hx => by obtain ⟨j, hj, rfl⟩ := List.getElem_of_mem hx; rw [hno j hj (by omega)]; simp]; rfl, rfl⟩
theorem osF_set {os : List Int} {a : Int} {x v : Int} (ha : 0 ≤ a) (hv : 0 ≤ v) (hal : a.toNat < os.length) : osF (os.set a.toNat x) v = if a = v then x else osF os v := by
  unfold osF
  by_cases e : a = v
  · subst e; rw [if_pos rfl, List.getElem?_set_self hal]; rfl
  · rw [if_neg e, List.getElem?_set_ne (by omega)]
theorem tmod_nat (a s : Nat) : ((a : Nat) : Int).tmod ((s : Nat) : Int) = ((a % s : Nat) : Int) := by
  rw [Int.tmod_eq_emod_of_nonneg (by omega)]; rfl
theorem tdiv_nat (a s : Nat) : ((a : Nat) : Int).tdiv ((s : Nat) : Int) = ((a / s : Nat) : Int) := by
  rw [Int.tdiv_eq_ediv_of_nonneg (by omega)]; rfl
theorem WHolds_does {gs : List Sy} {w : Wd} {cl : List Li} (hR : WR gs w) (h0 : ∀ x ∈ cl, litG gs x = 0) {I : Imm} {vw va : Value} (hw : RepW I vw w) (ha : RepC I va cl) (hbig : sizeL (sidesL cl) ≤ 10000) (hpow : w.size.toNat ^ (uvL [] (sidesL cl)).length ≤ 1000) :
    Does Try.prog 22 [vw, va] I [] (fun v _ δ' => (∃ q, v = .bool q ∧ (q = true ↔ HoW w cl)) ∧ δ' = []) := by
  have hw0 := hw
  obtain ⟨A, wc, rfl, hlen, hatR⟩ := hw.open
  obtain ⟨aA, aC, hsh⟩ := RepE.shape ha
  subst hsh
  have hlo := hR.lo
  have hhi := hR.hi
  obtain ⟨s, hs⟩ : ∃ s : Nat, s = w.size.toNat := ⟨_, rfl⟩
  have hws : w.size = (s : Int) := by omega
  have huv : ∀ {t : T}, t ∈ sidesL cl → ∀ k ∈ hds t, k < 0 → -1 - k ∈ uvL [] (sidesL cl) := fun {t} ht k hk hk0 => (uvL_mem _ _ _).2 (.inr ⟨k, List.mem_flatMap.2 ⟨t, ht, hk⟩, hk0, rfl⟩)
  have hHo := HoW_iff hR (c := cl) huv
  have hgood : (sidesL cl).any badT = false := by
    rw [List.any_eq_false]
    intro t ht
    obtain ⟨x, hx, e⟩ := List.mem_flatMap.1 ht
    obtain ⟨o1, o2⟩ := litG_ok (h0 x hx)
    unfold badT
    simp at e
    rcases e with rfl | rfl
    · rw [o1.chk]; simp
    · rw [o2.chk]; simp
  have hvin : ∀ v ∈ uvL [] (sidesL cl), 0 ≤ v ∧ v ≤ 255 := fun v hv => varsC_in hgood v ((uv_vars cl v).1 hv)
  have hnd := uvL_nodup (sidesL cl) [] List.nodup_nil
  have hln := uvL_len (sidesL cl) []
  rw [List.length_nil, Nat.zero_add] at hln
  have hcong : ∀ (x : Li) (hx : x ∈ cl) (os : List Int) (n : Nat), (∀ v ∈ uvL [] (sidesL cl), osF os v = dgF s (uvL [] (sidesL cl)) n v) → litWd w os x = litV w (dgF s (uvL [] (sidesL cl)) n) x := fun x hx os n h => by rw [litWd_V]; exact litV_congr hx h huv
  rw [← hs] at hpow hHo
  obtain ⟨V, hV⟩ : ∃ V, V = uvL [] (sidesL cl) := ⟨_, rfl⟩
  rw [← hV] at hHo hvin hnd hln hcong hpow
  refine Does.intro Try.func22 rfl Try.ntmps22 rfl fun w0 => ?_
  refine code_seq ?_
  refine code_region ?_
  refine o_box rfl rfl rfl (fun b2 => ?_)
  refine op_v (v_assign rfl) rfl ?_
  refine ops_nil ?_
  refine post_next ?_
  refine code_seq ?_
  refine code_region ?_
  refine op_v (v_move rfl) rfl ?_
  refine op_call pl68 rfl rfl ((Rsides_does (ha.mono Imm.leA))) Parts.none ?_
  rintro v12 I12 _ hI12 ⟨hs12, rfl⟩
  refine op_call pl67 rfl rfl ((RVars05_does hs12 hbig)) Parts.none ?_
  rintro v13 I13 _ hI13 ⟨hv13, rfl⟩
  rw [← hV] at hv13
  obtain ⟨va, vc, rfl⟩ := hv13.shape
  rw [hws]
  refine op_v (v_assign rfl) rfl ?_
  refine ops_nil ?_
  refine post_next ?_
  refine code_seq ?_
  refine code_region ?_
  refine op_v (v_fieldB 0 Try.underlying25 rfl rfl fz3 rfl) rfl ?_
  refine op_v (v_loadA ty3 rfl rfl) rfl ?_
  refine op_v (v_move rfl) rfl ?_
  refine op_v (v_len Try.underlying62 rfl) rfl ?_
  refine op_call pl65 rfl rfl ((power2_does (s := s) (n := V.length) (by omega) (by omega) hpow (by omega))) Parts.none ?_
  rintro v18 I18 _ hI18 ⟨rfl, rfl⟩
  refine op_v (v_assign rfl) rfl ?_
  refine ops_nil ?_
  refine post_next ?_
  refine code_seq ?_
  refine code_region ?_
  refine o_makeSlice (z := .int .i64 0) (size := 1) (bytes := 8) (n := 256) (xs := (List.replicate 256 (0 : Int)).map (Value.int .i64)) Try.underlying62 (by kernel_rfl) rfl rfl rfl (by omega) (by omega) (by rw [Nat.mul_one]; exact (madeCells_one _ _).trans (by rw [List.map_replicate])) (fun g19 => ?_)
  refine op_v (v_assign rfl) rfl ?_
  refine ops_nil ?_
  refine post_next ?_
  refine code_seq ?_
  refine code_seq ?_
  refine code_region ?_
  refine op_v (v_assign rfl) rfl ?_
  refine ops_nil ?_
  refine post_next ?_
  refine code_block ?_
  have hgs : (some (⟨g19, 0, none⟩ : Addr)).isSome = true := rfl
  refine code_loop (fun m σ' I' δ' => ∃ (n : Nat) (os : List Int), m = s ^ V.length - n ∧ n ≤ s ^ V.length ∧ σ' = [(1, .slice aA cl.length aC), (2, .pointer (some ⟨b2, 0, none⟩)), (5, .slice va V.length vc), (6, .int .i64 ((s ^ V.length : Nat) : Int)), (7, .slice (some ⟨g19, 0, none⟩) 256 256), (8, .int .i64 n)] ∧ I18.le I' ∧ δ' = [oRow (some ⟨g19, 0, none⟩) 256 256 os, .box b2 25 [.int .i64 s, .slice A w.rows.length wc]] ∧ os.length = 256 ∧ (∀ x ∈ os, 0 ≤ x ∧ x < w.size) ∧ ∀ j, j < n → ∃ x ∈ cl, litV w (dgF s V j) x = true) (s ^ V.length) [(1, .slice aA cl.length aC), (2, .pointer (some ⟨b2, 0, none⟩)), (5, .slice va V.length vc), (6, .int .i64 ((s ^ V.length : Nat) : Int)), (7, .slice (some ⟨g19, 0, none⟩) 256 256), (8, .int .i64 (0 : Nat))] ⟨0, List.replicate 256 0, rfl, Nat.zero_le _, rfl, Imm.le_refl _, rfl, by rw [List.length_replicate], fun x hx => by have := List.eq_of_mem_replicate hx; omega, fun j h => by omega⟩ ⟨rfl, rfl, rfl, rfl, rfl, rfl, trivial⟩ ?_
  rintro m _ I0 _ ⟨n, os, rfl, hn, rfl, hI0, rfl, hol, hos, hall⟩
  refine code_seq ?_
  refine code_seq ?_
  refine code_region ?_
  refine op_v (v_move rfl) rfl ?_
  refine op_v (v_move rfl) rfl ?_
  refine op_v (v_cmp rfl rfl rfl) rfl ?_
  refine ops_nil ?_
  refine post_next ?_
  refine code_cond rfl (fun hc0 => ?_) (fun hc0 => ?_)
  · have hlt : n < s ^ V.length := by have h := hc0; simp only [decide_eq_true_eq] at h; omega
    refine code_skip ?_
    refine post_next ?_
    refine code_seq ?_
    refine code_block ?_
    refine code_seq ?_
    refine code_region ?_
    refine op_v (v_move rfl) rfl ?_
    refine op_v (v_assign rfl) rfl ?_
    refine ops_nil ?_
    refine post_next ?_
    refine code_seq ?_
    refine code_seq ?_
    refine code_region ?_
    refine op_v (v_assign rfl) rfl ?_
    refine ops_nil ?_
    refine post_next ?_
    refine code_block ?_
    refine code_loop (fun m σ' I' δ' => ∃ (i : Nat) (os : List Int), m = V.length - i ∧ i ≤ V.length ∧ σ' = [(1, .slice aA cl.length aC), (2, .pointer (some ⟨b2, 0, none⟩)), (5, .slice va V.length vc), (6, .int .i64 ((s ^ V.length : Nat) : Int)), (7, .slice (some ⟨g19, 0, none⟩) 256 256), (8, .int .i64 n), (9, .int .i64 ((n / s ^ i : Nat) : Int)), (10, .int .i64 i)] ∧ I0.le I' ∧ δ' = [oRow (some ⟨g19, 0, none⟩) 256 256 os, .box b2 25 [.int .i64 s, .slice A w.rows.length wc]] ∧ os.length = 256 ∧ (∀ x ∈ os, 0 ≤ x ∧ x < w.size) ∧ ∀ j (h : j < V.length), j < i → osF os V[j] = dgF s V n V[j]) V.length [(1, .slice aA cl.length aC), (2, .pointer (some ⟨b2, 0, none⟩)), (5, .slice va V.length vc), (6, .int .i64 ((s ^ V.length : Nat) : Int)), (7, .slice (some ⟨g19, 0, none⟩) 256 256), (8, .int .i64 n), (9, .int .i64 n), (10, .int .i64 (0 : Nat))] ⟨0, os, rfl, Nat.zero_le _, by simp, Imm.le_refl _, rfl, hol, hos, fun j _ h => by omega⟩ ⟨rfl, rfl, rfl, rfl, rfl, rfl, rfl, rfl, trivial⟩ ?_
    rintro m _ I1 _ ⟨i, os1, rfl, hi, rfl, hI1, rfl, hol1, hos1, hd1⟩
    refine code_seq ?_
    refine code_seq ?_
    refine code_region ?_
    refine op_v (v_move rfl) rfl ?_
    refine op_v (v_move rfl) rfl ?_
    refine op_v (v_len Try.underlying62 rfl) rfl ?_
    refine op_v (v_cmp rfl rfl rfl) rfl ?_
    refine ops_nil ?_
    refine post_next ?_
    refine code_cond rfl (fun hc1 => ?_) (fun hc1 => ?_)
    · have hlti : i < V.length := by have h := hc1; simp at h; omega
      have hatv := hv13.atI i hlti
      have hs2 := hatv.isSome
      have hvi := hvin _ (List.getElem_mem hlti)
      have hdg := dgF_at (s := s) n i hlti hnd
      have hq1000 : n / s ^ i / s ≤ 1000 := Nat.le_trans (Nat.div_le_self _ _) (Nat.le_trans (Nat.div_le_self _ _) (by omega))
      have hmod := Nat.mod_lt (n / s ^ i) (show s > 0 by omega)
      have hvl : V[i].toNat < os1.length := by omega
      have hsetl : (os1.set V[i].toNat ((n / s ^ i % s : Nat) : Int)).length = 256 := by rw [List.length_set, hol1]
      have hsetr : ∀ x ∈ os1.set V[i].toNat ((n / s ^ i % s : Nat) : Int), 0 ≤ x ∧ x < w.size := fun x hx => by
        rcases List.mem_or_eq_of_mem_set hx with q | q
        · exact hos1 x q
        · subst q; omega
      refine code_skip ?_
      refine post_next ?_
      refine code_seq ?_
      refine code_block ?_
      refine code_seq ?_
      refine code_draw (.fl 0 (.fl 1 (.fl 2 (.fl 3 (.fl 4 (.fl 5 (.fl 6 (.fl 7 (.fl 8 (.fl 9 (.ef 10 .done))))))))))) (fun _ => _) mixed (by kernel_rfl) (by kernel_rfl) (fun _ => (List.Sublist.refl _)) ?_
      refine e_fl rfl rfl (fun hs_ => PF.mk rfl (v_move rfl) hs_) ?_
      refine e_fl rfl rfl (fun hs_ => PF.mk rfl (v_move rfl) hs_) ?_
      refine e_fl rfl rfl (fun hs_ => PF.mk rfl (v_move rfl) hs_) ?_
      refine e_fl rfl rfl (fun hs_ => PF.mk rfl (v_indexA Try.underlying62 sz3 rfl rfl) hs_) ?_
      refine e_fl rfl rfl (fun hs_ => PF.mk rfl (v_loadI0 ty3 (hatv.mono Imm.leA) rfl rfl rfl) hs_) ?_
      refine e_fl rfl rfl (fun hs_ => PF.mk rfl (v_move rfl) hs_) ?_
      refine e_fl rfl rfl (fun hs_ => PF.mk rfl (v_fieldB 0 Try.underlying25 rfl rfl fz3 rfl) hs_) ?_
      refine e_fl rfl rfl (fun hs_ => PF.mk rfl (v_loadA ty3 rfl rfl) hs_) ?_
      refine e_fl rfl rfl (fun hs_ => PF.mk rfl (v_remb (c := ((n / s ^ i % s : Nat) : Int)) rfl rfl (by omega) (tmod_nat _ _)) hs_) ?_
      refine e_fl rfl rfl (fun hs_ => PF.mk rfl (v_indexIA Try.underlying62 sz3 rfl rfl) hs_) ?_
      refine e_eff rfl (by intro cs b hc; cases hc) (by intro c hc; cases hc) ?_
      refine o_storeRow (xs' := (os1.set V[i].toNat ((n / s ^ i % s : Nat) : Int)).map (Value.int .i64)) ty3 rfl rfl rfl rfl rfl rfl (by simp [cellsL, hol1]) Swap.here (by rw [List.map_set, Nat.mul_one]; exact stL_one (x := .int .i64 os1[V[i].toNat]) (by rw [List.getElem?_map, List.getElem?_eq_getElem hvl]; rfl)) ?_
      refine ops_nil ?_
      refine e_next_ (side_nil (by kernel_rfl)) ?_
      refine e_done ?_
      refine post_next ?_
      refine code_region ?_
      refine op_v (v_move rfl) rfl ?_
      refine op_v (v_fieldB 0 Try.underlying25 rfl rfl fz3 rfl) rfl ?_
      refine op_v (v_loadA ty3 rfl rfl) rfl ?_
      refine op_v (v_quob (c := ((n / s ^ i / s : Nat) : Int)) rfl rfl (by omega) (tdiv_nat _ _) ⟨Int.le_trans (by decide) (Int.natCast_nonneg _), Int.le_trans (Int.ofNat_le.2 hq1000) (by decide)⟩) rfl ?_
      refine op_v (v_assign rfl) rfl ?_
      refine ops_nil ?_
      refine post_out ?_
      refine post_next ?_
      refine code_region ?_
      refine op_v (v_move rfl) rfl ?_
      refine op_v (v_addb rfl rfl rfl (by omega)) rfl ?_
      refine op_v (v_assign rfl) rfl ?_
      refine ops_nil ?_
      refine post_again (V.length - (i + 1)) [(1, .slice aA cl.length aC), (2, .pointer (some ⟨b2, 0, none⟩)), (5, .slice va V.length vc), (6, .int .i64 ((s ^ V.length : Nat) : Int)), (7, .slice (some ⟨g19, 0, none⟩) 256 256), (8, .int .i64 n), (9, .int .i64 ((n / s ^ i / s : Nat) : Int)), (10, .int .i64 (i + 1 : Nat))] (by omega) ⟨i + 1, _, rfl, hlti, by rw [Nat.pow_succ, ← Nat.div_div_eq_div_mul], Imm.leA, rfl, hsetl, hsetr, fun j h hj => ?_⟩ ⟨rfl, rfl, rfl, rfl, rfl, rfl, rfl, rfl, trivial⟩
      rw [osF_set hvi.1 (hvin _ (List.getElem_mem h)).1 hvl]
      by_cases e : V[i] = V[j]
      · rw [if_pos e, ← e, hdg]
      · rw [if_neg e]
        rcases Nat.lt_or_ge j i with q | q
        · exact hd1 j h q
        · have e2 : j = i := by omega
          subst e2; exact absurd rfl e
    · have hgei : i = V.length := by have h := hc1; simp at h; omega
      have hdig : ∀ v ∈ V, osF os1 v = dgF s V n v := fun v hv => by obtain ⟨j, hj, rfl⟩ := List.getElem_of_mem hv; exact hd1 j hj (by omega)
      refine code_exit ?_
      refine post_exit_then ?_
      refine post_exit_then ?_
      refine post_exit ?_
      refine post_next ?_
      refine code_seq ?_
      refine code_region ?_
      refine op_v (v_loadA ty25 rfl rfl) rfl ?_
      refine op_v (v_move rfl) rfl ?_
      refine op_v (v_move rfl) rfl ?_
      refine op_call pl69 rfl rfl ((worldAny_does hR hol1 (by omega) hos1 h0 (by rw [← hws]; exact hw0.mono Imm.leA) (ha.mono Imm.leA))) (Parts.one Del.here) ?_
      rintro v49 I49 _ hI49 ⟨rfl, rfl⟩
      by_cases hany : (cl.any fun x => litWd w os1 x) = true
      · rw [hany]
        have hyes : ∃ x ∈ cl, litV w (dgF s V n) x = true := by
          obtain ⟨x, hx, hv⟩ := List.any_eq_true.1 hany
          exact ⟨x, hx, by rw [← hcong x hx os1 n hdig]; exact hv⟩
        refine op_v (v_not rfl) rfl ?_
        refine ops_nil ?_
        refine post_next ?_
        refine code_cond_f rfl ?_
        refine code_skip ?_
        refine post_out ?_
        refine post_next ?_
        refine code_region ?_
        refine op_v (v_move rfl) rfl ?_
        refine op_v (v_addb rfl rfl rfl (by omega)) rfl ?_
        refine op_v (v_assign rfl) rfl ?_
        refine ops_nil ?_
        refine post_again (s ^ V.length - (n + 1)) [(1, .slice aA cl.length aC), (2, .pointer (some ⟨b2, 0, none⟩)), (5, .slice va V.length vc), (6, .int .i64 ((s ^ V.length : Nat) : Int)), (7, .slice (some ⟨g19, 0, none⟩) 256 256), (8, .int .i64 (n + 1 : Nat))] (by omega) ⟨n + 1, os1, rfl, hlt, rfl, Imm.leA, rfl, hol1, hos1, fun j hj => ?_⟩ ⟨rfl, rfl, rfl, rfl, rfl, rfl, trivial⟩
        rcases Nat.lt_or_ge j n with q | q
        · exact hall j q
        · have e : j = n := by omega
          subst e; exact hyes
      · have hany' : (cl.any fun x => litWd w os1 x) = false := by simpa using hany
        rw [hany']
        refine op_v (v_not rfl) rfl ?_
        refine ops_nil ?_
        refine post_next ?_
        refine code_cond_t rfl ?_
        refine code_seq ?_
        refine code_region ?_
        refine op_v (v_assign rfl) rfl ?_
        refine ops_nil ?_
        refine post_next ?_
        refine code_ret ?_
        refine post_ret_block ?_
        refine post_ret_then ?_
        refine post_ret_then ?_
        refine post_ret_block ?_
        refine post_ret_then ?_
        refine post_ret (rs := [.tmp 4]) rfl (List.Perm.refl _) (.cons (.tmp rfl) .nil) (List.nil_sublist _) ?_
        exact ⟨⟨false, rfl, by simp only [Bool.false_eq_true, false_iff]; rw [hHo]; intro h; obtain ⟨x, hx, hv⟩ := h n hlt; have := List.any_eq_false.1 hany' x hx; rw [hcong x hx os1 n hdig] at this; exact this hv⟩, rfl⟩
  · have hge : n = s ^ V.length := by have h := hc0; simp only [decide_eq_false_iff_not] at h; omega
    refine code_exit ?_
    refine post_exit_then ?_
    refine post_exit_then ?_
    refine post_exit ?_
    refine post_next ?_
    refine code_seq ?_
    refine code_region ?_
    refine op_v (v_assign rfl) rfl ?_
    refine ops_nil ?_
    refine post_next ?_
    refine code_ret ?_
    refine post_ret (rs := [.tmp 4]) rfl (List.Perm.refl _) (.cons (.tmp rfl) .nil) (List.nil_sublist _) ?_
    exact ⟨⟨true, rfl, by simp only [true_iff]; rw [hHo]; exact fun j hj => hall j (by omega)⟩, rfl⟩
end Go.Proofs.Ytdbadicpbmndbaa
/- What is selected, what may play a part: plainly, and walks. -/
set_option linter.unusedVariables false
set_option linter.unusedSimpArgs false
set_option linter.unnecessarySimpa false
/- short -/
namespace Go.Proofs.Ytdbadicpbmndbaa
open Go Lg

/-! ### plain -/
def litW (gs : List Sy) (x : Li) : Int := IntKind.i64.wrap ((if termG gs x.l = 0 then wgtG gs x.l else 0) + (if termG gs x.r = 0 then wgtG gs x.r else 0))
def pickG (gs : List Sy) (c : List Li) (how : Int) : Nat → Option Nat
  | 0 => none
  | k + 1 => if (c.getD k zeroLi).neg = false ∨ how = 0 then pickG gs c how k else match pickG gs c how k with
    | none => some k
    | some j => if how = 2 ∧ litW gs (c.getD j zeroLi) < litW gs (c.getD k zeroLi) then some k else some j
def selO : Option Nat → List Int
  | none => []
  | some j => [(j : Int)]
def selG (gs : List Sy) (c : List Li) (how : Int) : List Int := selO (pickG gs c how c.length)
/-! ### walks -/
end Go.Proofs.Ytdbadicpbmndbaa
/- Walks: what is selected, what may play a part; the example of maximal literals. -/
set_option linter.unusedVariables false
set_option linter.unusedSimpArgs false
set_option linter.unnecessarySimpa false
/- short -/
namespace Go.Proofs.Ytdbadicpbmndbaa
open Go Lg

def selE (gs : List Sy) (c : List Li) (how : Int) : Int := if chkC gs c ≠ 0 then chkC gs c else if how < 0 ∨ 3 ≤ how then 1 else 0
def mayB (gs : List Sy) (c d : List Li) (how i : Int) : Bool := if 0 < (selG gs c how).length then decide (i ∈ selG gs c how) else topG gs d i.toNat (!(c.getD i.toNat zeroLi).neg)
def MayH (gs : List Sy) (c : List Li) (how i : Int) (bs : List Bi) (b : Bool) (e : Int) : Prop :=
  (selE gs c how ≠ 0 ∧ e = selE gs c how ∧ b = false) ∨ (selE gs c how = 0 ∧ (((i < 0 ∨ (c.length : Int) ≤ i) ∧ e = 1 ∧ b = false) ∨ (¬ (i < 0 ∨ (c.length : Int) ≤ i) ∧ ∃ e1 d, OutC bs c e1 d ∧ ((e1 ≠ 0 ∧ e = e1 ∧ b = false) ∨ (e1 = 0 ∧ ((chkC gs d ≠ 0 ∧ e = chkC gs d ∧ b = false) ∨ (chkC gs d = 0 ∧ e = 0 ∧ b = mayB gs c d how i)))))))
theorem MayH.eq {gs : List Sy} {c : List Li} {how i : Int} {bs : List Bi} {a b : Bool} {e f : Int} (h : MayH gs c how i bs a e) (k : MayH gs c how i bs b f) : a = b ∧ e = f := by
  rcases h with ⟨h1, rfl, rfl⟩ | ⟨h1, ⟨h2, rfl, rfl⟩ | ⟨h2, e1, d, ho, h3⟩⟩ <;> rcases k with ⟨k1, rfl, rfl⟩ | ⟨k1, ⟨k2, rfl, rfl⟩ | ⟨k2, f1, d2, ko, k3⟩⟩
  · exact ⟨rfl, rfl⟩
  · exact absurd k1 h1
  · exact absurd k1 h1
  · exact absurd h1 k1
  · exact ⟨rfl, rfl⟩
  · exact absurd h2 k2
  · exact absurd h1 k1
  · exact absurd k2 h2
  · obtain ⟨rfl, rfl⟩ := ho.eq ko
    rcases h3 with ⟨h3, rfl, rfl⟩ | ⟨h3, ⟨h4, rfl, rfl⟩ | ⟨h4, rfl, rfl⟩⟩ <;> rcases k3 with ⟨k3, rfl, rfl⟩ | ⟨k3, ⟨k4, rfl, rfl⟩ | ⟨k4, rfl, rfl⟩⟩
    · exact ⟨rfl, rfl⟩
    · exact absurd k3 h3
    · exact absurd k3 h3
    · exact absurd h3 k3
    · exact ⟨rfl, rfl⟩
    · exact absurd k4 h4
    · exact absurd h3 k3
    · exact absurd h4 k4
    · exact ⟨rfl, rfl⟩
theorem OutC.len0 {bs : List Bi} {c ys : List Li} (h : OutC bs c 0 ys) : ys.length = c.length ∧ ∀ i (h : i < c.length) (h2 : i < ys.length), OutL bs c[i] 0 ys[i] := by
  rcases h with ⟨_, h, _⟩ | ⟨_, ⟨_, _, _, _, _, _, h, _⟩ | ⟨_, hl, hall⟩⟩
  · cases h
  · exact absurd rfl h
  · exact ⟨hl, hall⟩
def fa11 : T := .mk 2 [a9]
def A11 : Li := ⟨false, a9, a9⟩
def B11 : Li := ⟨false, fa11, a9⟩
def c11 : List Li := [A11, B11]
end Go.Proofs.Ytdbadicpbmndbaa
/- Walks: the example of maximal literals; with terms put: the statement. -/
set_option linter.unusedVariables false
set_option linter.unusedSimpArgs false
set_option linter.unnecessarySimpa false
/- short -/
namespace Go.Proofs.Ytdbadicpbmndbaa
open Go Lg

end Go.Proofs.Ytdbadicpbmndbaa
/- Walks: the document's answers on variables and weights. -/
set_option linter.unusedVariables false
set_option linter.unusedSimpArgs false
/- short -/
namespace Go.Proofs.Ytdbadicpbmndbaa
open Go Lg

/-! ### plain -/
/-! ### walks -/
end Go.Proofs.Ytdbadicpbmndbaa
/- Walks: the document's answers on how two terms stand. -/
set_option linter.unusedVariables false
set_option linter.unusedSimpArgs false
/- short -/
namespace Go.Proofs.Ytdbadicpbmndbaa
open Go Lg

end Go.Proofs.Ytdbadicpbmndbaa
/- Walks: the document's answers on which term is greater. -/
set_option linter.unusedVariables false
set_option linter.unusedSimpArgs false
/- short -/
namespace Go.Proofs.Ytdbadicpbmndbaa
open Go Lg

end Go.Proofs.Ytdbadicpbmndbaa
/- Walks: the document's answers on which row is greater. -/
set_option linter.unusedVariables false
set_option linter.unusedSimpArgs false
/- short -/
namespace Go.Proofs.Ytdbadicpbmndbaa
open Go Lg

/-! ### plain -/
theorem RepS.row {I : Imm} {v : Value} {ts : List T} (h : RepS I v ts) : ∃ (A : Option Addr) (c : Nat) (ss : Nat → Option Addr × Nat) (xs : List Value), v = .slice A ts.length c ∧ Cells I A xs ∧ RowT I xs ts ∧ ts.length ≤ 4398046511104 ∧ ∀ i (h : i < ts.length), At I A (i * 2) [.int .i64 ts[i].head, .slice (ss i).1 ts[i].args.length (ss i).2] ∧ RepT I (.agg #[.int .i64 ts[i].head, .slice (ss i).1 ts[i].args.length (ss i).2]) ts[i] := by
  obtain ⟨A, c, ss, L, hc, hb, hat2, hr, hsub0⟩ := h
  have hs := fun i (hi : i < ts.length) => RepT.mk _ _ (hr i hi) (hsub0 i hi)
  obtain ⟨h1, h2⟩ := RowT.of hat2 hs
  exact ⟨A, c, ss, _, rfl, h1, h2, hb, fun i hi => ⟨hat2 i hi, hs i hi⟩⟩
/-! ### walks -/
end Go.Proofs.Ytdbadicpbmndbaa
/- Walks: the document's answers on which row is greater; the statement. -/
set_option linter.unusedVariables false
set_option linter.unusedSimpArgs false
set_option linter.unnecessarySimpa false
/- short -/
namespace Go.Proofs.Ytdbadicpbmndbaa
open Go Lg

end Go.Proofs.Ytdbadicpbmndbaa
/- Walks: the document's answers on literals; the statement on how two stand. -/
set_option linter.unusedVariables false
set_option linter.unusedSimpArgs false
set_option linter.unnecessarySimpa false
/- short -/
namespace Go.Proofs.Ytdbadicpbmndbaa
open Go Lg

end Go.Proofs.Ytdbadicpbmndbaa
/- Walks: the document's answers on clauses and maximal literals. -/
set_option linter.unusedVariables false
set_option linter.unusedSimpArgs false
set_option linter.unnecessarySimpa false
/- short -/
namespace Go.Proofs.Ytdbadicpbmndbaa
open Go Lg

theorem RCheck10_does {I : Imm} {vg v : Value} {gs : List Sy} {c : List Li} (hg : RepG I vg gs) (hv : RepC I v c) (hs : SmC c) :
    Does Try.prog 20 [vg, v] I [] (fun v I' δ' => v = .int .i64 (chkC gs c) ∧ δ' = []) := by
  obtain ⟨ad, c0, xs, rfl, hc, hb, hcells, hrow⟩ := hv
  refine Does.intro Try.func20 rfl Try.ntmps20 rfl fun w0 => ?_
  refine code_seq ?_
  refine code_region ?_
  refine op_v (v_assign rfl) rfl ?_
  refine ops_nil ?_
  refine post_next ?_
  refine code_seq ?_
  refine code_seq ?_
  refine code_region ?_
  refine op_v (v_move rfl) rfl ?_
  refine op_call pl64 rfl rfl ((RightR_does hg)) Parts.none ?_
  rintro v8 I8 _ hI8 ⟨rfl, rfl⟩
  by_cases h9 : rightG gs = true
  · rw [h9]
    have hck0 : chkG gs = 0 := if_pos h9
    refine op_v (v_not rfl) rfl ?_
    refine ops_nil ?_
    refine post_next ?_
    refine code_cond_f rfl ?_
    refine code_skip ?_
    refine post_next ?_
    refine code_seq ?_
    refine code_seq ?_
    refine code_region ?_
    refine op_v (v_move rfl) rfl ?_
    refine op_v (v_len Try.underlying26 rfl) rfl ?_
    by_cases h12 : 32 < c.length
    · refine op_v (v_cmpt rfl rfl rfl (by omega)) rfl ?_
      refine ops_nil ?_
      refine post_next ?_
      refine code_cond_t rfl ?_
      refine code_seq ?_
      refine code_region ?_
      refine op_v (v_assign rfl) rfl ?_
      refine ops_nil ?_
      refine post_next ?_
      refine code_ret ?_
      refine post_ret_then ?_
      refine post_ret (rs := [.tmp 4]) rfl (List.Perm.refl _) (.cons (.tmp rfl) .nil) (List.nil_sublist _) ?_
      exact ⟨by unfold chkC; rw [if_neg (by rw [hck0]; simp), if_pos h12]; rfl, rfl⟩
    · have hck : chkC gs c = chkLs gs c := by unfold chkC; rw [if_neg (by rw [hck0]; simp), if_neg h12]
      refine op_v (v_cmpf rfl rfl rfl (by omega)) rfl ?_
      refine ops_nil ?_
      refine post_next ?_
      refine code_cond_f rfl ?_
      refine code_skip ?_
      refine post_next ?_
      refine code_seq ?_
      refine code_seq ?_
      refine code_region ?_
      refine op_v (v_assign rfl) rfl ?_
      refine ops_nil ?_
      refine post_next ?_
      refine code_block ?_
      refine code_loop (fun m σ' I' δ' => ∃ k : Nat, m = c.length - k ∧ k ≤ c.length ∧ σ' = [(0, vg), (1, .slice ad c.length c0), (5, .int .i64 k)] ∧ I.le I' ∧ δ' = [] ∧ chkLs gs c = chkLs gs (c.drop k)) c.length [(0, vg), (1, .slice ad c.length c0), (5, .int .i64 (0 : Nat))] ⟨0, rfl, Nat.zero_le _, rfl, Imm.leA, rfl, rfl⟩ ⟨rfl, rfl, rfl, trivial⟩ ?_
      rintro m _ I0 _ ⟨k, rfl, hk, rfl, hI0, rfl, hta⟩
      refine code_seq ?_
      refine code_seq ?_
      refine code_region ?_
      refine op_v (v_move rfl) rfl ?_
      refine op_v (v_move rfl) rfl ?_
      refine op_v (v_len Try.underlying26 rfl) rfl ?_
      refine op_v (v_cmp rfl rfl rfl) rfl ?_
      refine ops_nil ?_
      refine post_next ?_
      refine code_cond rfl (fun hc2 => ?_) (fun hc2 => ?_)
      · have hlt : k < c.length := by simpa using hc2
        obtain ⟨vs, ⟨la, lc, ra, rc, rfl, hl, hr⟩, hat⟩ := hrow.cellsAt hcells hlt
        have hs1 := hat.isSome
        have hsk := hs.at hlt
        rw [List.drop_eq_getElem_cons hlt] at hta
        refine code_skip ?_
        refine post_next ?_
        refine code_seq ?_
        refine code_block ?_
        refine code_seq ?_
        refine code_region ?_
        refine op_v (v_move rfl) rfl ?_
        refine op_v (v_move rfl) rfl ?_
        refine op_v (v_move rfl) rfl ?_
        refine op_v (v_indexA Try.underlying26 sz49 rfl rfl) rfl ?_
        refine op_v (v_loadI0 ty49 (hat.mono hI0) rfl rfl rfl) rfl ?_
        refine op_call pl66 rfl rfl ((RLCheck_does (x := c[k]) (hg.mono hI0) ⟨la, lc, ra, rc, rfl, hl.mono hI0, hr.mono hI0⟩ hsk.1 hsk.2)) Parts.none ?_
        rintro v24 I24 _ hI24 ⟨rfl, rfl⟩
        refine op_v (v_assign rfl) rfl ?_
        refine ops_nil ?_
        refine post_next ?_
        refine code_seq ?_
        refine code_region ?_
        refine op_v (v_move rfl) rfl ?_
        by_cases h26 : litG gs c[k] ≠ 0
        · refine op_v (v_cmptA rfl rfl rfl) rfl ?_
          refine ops_nil ?_
          refine post_next ?_
          refine code_cond_t rfl ?_
          refine code_seq ?_
          refine code_region ?_
          refine op_v (v_move rfl) rfl ?_
          refine op_v (v_assign rfl) rfl ?_
          refine ops_nil ?_
          refine post_next ?_
          refine code_ret ?_
          refine post_ret_block ?_
          refine post_ret_then ?_
          refine post_ret_then ?_
          refine post_ret_block ?_
          refine post_ret_then ?_
          refine post_ret (rs := [.tmp 4]) rfl (List.Perm.refl _) (.cons (.tmp rfl) .nil) (List.nil_sublist _) ?_
          exact ⟨by rw [hck, hta, chkLs, if_pos h26]; rfl, rfl⟩
        · refine op_v (v_cmpfA rfl rfl rfl) rfl ?_
          refine ops_nil ?_
          refine post_next ?_
          refine code_cond_f rfl ?_
          refine code_skip ?_
          refine post_out ?_
          refine post_next ?_
          refine code_region ?_
          refine op_v (v_move rfl) rfl ?_
          refine op_v (v_addb rfl rfl rfl (by omega)) rfl ?_
          refine op_v (v_assign rfl) rfl ?_
          refine ops_nil ?_
          refine post_again (c.length - (k + 1)) [(0, vg), (1, .slice ad c.length c0), (5, .int .i64 (k + 1 : Nat))] (by omega) ⟨k + 1, rfl, hlt, rfl, Imm.leA, rfl, by rw [hta, chkLs, if_neg h26]⟩ ⟨rfl, rfl, rfl, trivial⟩
      · have hge : k = c.length := by simp at hc2; omega
        subst hge
        rw [List.drop_length] at hta
        refine code_exit ?_
        refine post_exit_then ?_
        refine post_exit_then ?_
        refine post_exit ?_
        refine post_next ?_
        refine code_seq ?_
        refine code_region ?_
        refine op_v (v_assign rfl) rfl ?_
        refine ops_nil ?_
        refine post_next ?_
        refine code_ret ?_
        refine post_ret (rs := [.tmp 4]) rfl (List.Perm.refl _) (.cons (.tmp rfl) .nil) (List.nil_sublist _) ?_
        exact ⟨by rw [hck, hta]; rfl, rfl⟩
  · have h9' : rightG gs = false := by simpa using h9
    rw [h9']
    have hck1 : chkG gs = 1 := if_neg h9
    refine op_v (v_not rfl) rfl ?_
    refine ops_nil ?_
    refine post_next ?_
    refine code_cond_t rfl ?_
    refine code_seq ?_
    refine code_region ?_
    refine op_v (v_assign rfl) rfl ?_
    refine ops_nil ?_
    refine post_next ?_
    refine code_ret ?_
    refine post_ret_then ?_
    refine post_ret (rs := [.tmp 4]) rfl (List.Perm.refl _) (.cons (.tmp rfl) .nil) (List.nil_sublist _) ?_
    exact ⟨by unfold chkC; rw [hck1, if_pos (by decide)]; rfl, rfl⟩
end Go.Proofs.Ytdbadicpbmndbaa
/- What a row's reading of its arguments says of the heap; plain facts, no condition. -/
set_option linter.unusedVariables false
set_option linter.unusedSimpArgs false
namespace Go.Proofs.Ytdbadicpbmndbaa
open Go Lg Go.ChangeShapes Go.WideShapes Go.ChangeAt Go.RowKit

/-- the whole heap, as what is only read -/
def hImm (w : World) : Imm := fun b => w.heap[b]?
theorem hSat (w : World) : Sat w (hImm w) [] := ⟨fun _ _ h => h, fun x hx => by simp at hx, by simp [blks], fun b hb => by simp [blks] at hb⟩
theorem wf_in {n : Int} (h : (Lit.int .i64 n).wf = true) : InR n := by
  simp only [Lit.wf, Bool.and_eq_true, decide_eq_true_eq] at h
  have h1 : IntKind.i64.min = -9223372036854775808 := by decide
  have h2 : IntKind.i64.max = 9223372036854775807 := by decide
  unfold InR; omega

variable {H : Type} {enc : TypeId × Value → H} {P : Program} {W : World} {spare : Nat → Bool} {held : Bool}

theorem weights_at {ts : List TypeId} {ds : List (DataW H)} (h : (DataW.weightsEach P ts ds).all (· ≤ reachBytes) = true) : ∀ (j : Nat) (t : TypeId) (d : DataW H), ts[j]? = some t → ds[j]? = some d → (d.weights P t).all (· ≤ reachBytes) = true := by
  induction ts generalizing ds with
  | nil => intro j t d ht; simp at ht
  | cons t0 ts ih =>
    cases ds with
    | nil => intro j t d _ hd; simp at hd
    | cons d0 ds =>
      simp only [DataW.weightsEach, List.all_append, Bool.and_eq_true] at h
      intro j t d ht hd
      cases j with
      | zero => simp at ht hd; subst ht; subst hd; exact h.1
      | succ j => exact ih h.2 j t d (by simpa using ht) (by simpa using hd)
theorem weights_all {e : TypeId} {ds : List (DataW H)} (h : (DataW.weightsAll P e ds).all (· ≤ reachBytes) = true) : ∀ d ∈ ds, (d.weights P e).all (· ≤ reachBytes) = true := by
  induction ds with
  | nil => intro d hd; cases hd
  | cons d0 ds ih =>
    simp only [DataW.weightsAll, List.all_append, Bool.and_eq_true] at h
    intro d hd
    rcases List.mem_cons.1 hd with rfl | hd
    · exact h.1
    · exact ih h.2 d hd

theorem openI {t e : TypeId} {a : Option Addr} {len cap : Nat} {d : DataW H} {ps : List MemPlace} (ht : P.underlying t = some (.slice e)) (he : P.underlying e = some (.int .i64)) (hc : P.cellsOf e = 1) (hB : P.bytesOf e = 8)
    (h : DataW.Trod enc P W 0 spare held t (.slice a len cap) d ps) (hw : (d.weights P t).all (· ≤ reachBytes) = true) : ∃ xs, RInts (hImm W) (.slice a len cap) xs := by
  obtain ⟨fuel, hf⟩ := h
  rcases open_ints ht he hc hf with ⟨hcs, _⟩ | ⟨x, l, c, zs, hcs, _, hl, hm, hz, hx, hcell, hwz⟩
  · simp [Value.cells] at hcs
    obtain ⟨rfl, rfl, rfl⟩ := hcs
    exact ⟨[], RInts.nil _⟩
  · simp [Value.cells] at hcs
    obtain ⟨rfl, rfl, rfl⟩ := hcs
    obtain ⟨hx, _⟩ := Prod.mk.inj hx
    subst hx
    have hzl : len ≤ zs.length := by rw [hz]; split <;> omega
    have hlen : (zs.take len).length = len := by rw [List.length_take]; omega
    simp only [DataW.weights, ht, hB, List.all_cons, Bool.and_eq_true, decide_eq_true_eq] at hw
    have hb : len * 8 ≤ reachBytes := by
      refine Nat.le_trans ?_ hw.1
      simp [lits]; omega
    have hrb : reachBytes = 140737488351232 := rfl
    refine ⟨zs.take len, RInts.of hlen.symm hl (by omega) (fun j v hj => ?_) (fun y hy => wf_in (hwz y (List.mem_of_mem_take hy)))⟩
    have hjl : j < len := by have := (List.getElem?_eq_some_iff.1 hj).1; simp at this; omega
    have hc := hcell j (by omega)
    rw [List.map_take, List.getElem?_take_of_lt hjl] at hj
    have e : v = .int .i64 (zs.getD j 0) := by
      have hjz : j < zs.length := by omega
      simp [hjz] at hj
      simp [hjz, hj]
    subst e
    exact hc

theorem pick_list {α : Type} {n : Nat} {p : Nat → α → Prop} (h : ∀ i, i < n → ∃ a, p i a) : ∃ l : List α, l.length = n ∧ ∀ i (hi : i < l.length), p i l[i] := by
  induction n with
  | zero => exact ⟨[], rfl, fun i hi => by simp at hi⟩
  | succ n ih =>
    obtain ⟨l, h1, h2⟩ := ih fun i hi => h i (by omega)
    obtain ⟨a, ha⟩ := h n (by omega)
    refine ⟨l ++ [a], by simp [h1], fun i hi => ?_⟩
    by_cases hlt : i < l.length
    · rw [List.getElem_append_left hlt]; exact h2 i hlt
    · have e : i = l.length := by simp at hi; omega
      subst e
      simp [h1, ha]

theorem cells_two {a : Addr} {cs : List Value} (h : W.cells? 0 a 2 = some cs) : ∃ u v, cs = [u, v] ∧ W.cell? a = some u ∧ W.cell? (a.add 1) = some v := by
  simp only [World.cells?, Nat.zero_le, if_true] at h
  have hr : List.range 2 = [0, 1] := rfl
  rw [hr] at h
  simp only [List.mapM_cons, List.mapM_nil, Option.bind_eq_bind, Option.bind_eq_some_iff, Option.pure_def, Option.some.injEq] at h
  obtain ⟨u, hu, r, ⟨v, hv, r2, rfl, rfl⟩, rfl⟩ := h
  have ha : a.add 0 = a := by simp [Addr.add]
  rw [ha] at hu
  exact ⟨u, v, rfl, hu, hv⟩

/-- a struct of a number and a row of its own kind -/
structure TreeTy (P : Program) (tT tS tI : TypeId) : Prop where
  str : ∃ fs : Array Field, P.underlying tT = some (.struct fs) ∧ fs.size = 2 ∧ (∃ f0 f1 : Field, fs[0]? = some f0 ∧ fs[1]? = some f1 ∧ f0.type = tI ∧ f0.offset = 0 ∧ f1.type = tS ∧ f1.offset = 1 ∧ fs.toList.map (·.type) = [tI, tS])
  sl : P.underlying tS = some (.slice tT)
  int : P.underlying tI = some (.int .i64)
  cT : P.cellsOf tT = 2
  cS : P.cellsOf tS = 1
  cI : P.cellsOf tI = 1
  bT : P.bytesOf tT = 32

theorem openT {tT tS tI : TypeId} (ty : TreeTy P tT tS tI) : ∀ (fuel : Nat) (cs : List Value) (d : DataW H) (ps : List MemPlace), DataW.trod enc P W 0 spare held fuel tT cs = some (d, ps) → (d.weights P tT).all (· ≤ reachBytes) = true →
    ∃ (s : Value) (t : T), cs = [.int .i64 t.head, s] ∧ RepT (hImm W) (.agg #[.int .i64 t.head, s]) t := by
  intro fuel
  induction fuel using Nat.strongRecOn with
  | _ fuel ih =>
    intro cs d ps h hw
    obtain ⟨fs, hfs, hsz, f0, f1, hf0, hf1, ht0, ho0, ht1, ho1, hts⟩ := ty.str
    obtain ⟨xs, n, rfl, hx, hcl, hxl, hxs⟩ := DataW.trod_struct hfs h
    rw [ty.cT] at hcl
    obtain ⟨u, v, rfl⟩ : ∃ u v, cs = [u, v] := by
      rcases cs with _ | ⟨u, _ | ⟨v, _ | ⟨_, _⟩⟩⟩
      · simp at hcl
      · simp at hcl
      · exact ⟨u, v, rfl⟩
      · simp at hcl
    have h0 := hxs 0 f0 hf0
    have h1 := hxs 1 f1 hf1
    rw [ht0, ho0, ty.cI] at h0
    rw [ht1, ho1, ty.cS] at h1
    simp only [List.drop_zero, List.drop_succ_cons, List.take_succ_cons, List.take_zero] at h0 h1
    rw [hsz] at hxl
    obtain ⟨x0, x1, rfl⟩ : ∃ x0 x1, xs = [x0, x1] := by
      rcases xs with _ | ⟨u, _ | ⟨v, _ | ⟨_, _⟩⟩⟩
      · simp at hxl
      · simp at hxl
      · exact ⟨u, v, rfl⟩
      · simp at hxl
    simp only [List.getElem?_cons_zero, List.getElem?_cons_succ] at h0 h1
    obtain ⟨m, hm, _, hwf⟩ := DataW.trod_int ty.int h0
    simp only [List.cons.injEq, and_true] at hm
    subst hm
    simp only [Prod.mk.injEq] at hx
    obtain ⟨rfl, _⟩ := hx
    simp only [DataW.weights, hfs, hts, List.map_cons, List.map_nil, DataW.weightsEach, List.all_append, Bool.and_eq_true] at hw
    have hw1 := hw.2.1
    rcases DataW.trod_slice ty.sl h1 with ⟨hcs, _⟩ | ⟨a, len, cap, elems, rest, n', rfl, hcs, rfl, _, hl, hm, hlen, hel, hsp, _⟩
    · simp only [List.cons.injEq, and_true] at hcs
      subst hcs
      exact ⟨_, .mk m [], rfl, RepT.mk _ (.mk m []) (wf_in hwf) (RepS.nil _)⟩
    · simp only [List.cons.injEq, and_true] at hcs
      subst hcs
      simp only [DataW.weights, ty.sl, ty.bT, List.all_cons, List.all_append, Bool.and_eq_true, decide_eq_true_eq] at hw1
      obtain ⟨hwl, hwe, _⟩ := hw1
      have hwe' := weights_all hwe
      have hrb : reachBytes = 140737488351232 := rfl
      simp only [List.length_map, hlen] at hwl
      have hall : ∀ i, i < len → ∃ t : T, ∃ s : Option Addr × Nat, At (hImm W) (some a) (i * 2) [.int .i64 t.head, .slice s.1 t.args.length s.2] ∧ RepT (hImm W) (.agg #[.int .i64 t.head, .slice s.1 t.args.length s.2]) t := by
        intro i hi
        have hy := hel i hi
        rw [ty.cT] at hy
        have hie : elems[i]? = some elems[i] := List.getElem?_eq_getElem (by omega)
        rw [hie, Option.bind_eq_some_iff] at hy
        obtain ⟨cs, hcs, htr⟩ := hy
        obtain ⟨u, v, rfl, hu, hv⟩ := cells_two hcs
        obtain ⟨s, t, he, hr⟩ := ih n' (by omega) _ elems[i].1 elems[i].2 htr (hwe' _ (List.mem_map.2 ⟨_, List.getElem_mem (by omega), rfl⟩))
        obtain ⟨sa, sc, hsh, _⟩ := hr.shape
        have hs : s = .slice sa t.args.length sc := by simpa using hsh
        subst hs
        simp only [List.cons.injEq, and_true] at he
        obtain ⟨rfl, rfl⟩ := he
        refine ⟨t, (sa, sc), fun j x hj => ?_, hr⟩
        rcases j with _ | _ | j
        · simp at hj; subst hj; exact hu
        · simp at hj; subst hj
          show W.cell? (a.add (i * 2 + 1)) = _
          rw [← add_add]; exact hv
        · simp at hj
      obtain ⟨ts, htl, hts2⟩ := pick_list hall
      have hss : ∃ ss : Nat → Option Addr × Nat, ∀ i (hi : i < ts.length), At (hImm W) (some a) (i * 2) [.int .i64 ts[i].head, .slice (ss i).1 ts[i].args.length (ss i).2] ∧ RepT (hImm W) (.agg #[.int .i64 ts[i].head, .slice (ss i).1 ts[i].args.length (ss i).2]) ts[i] := by
        classical
        exact ⟨fun i => if hi : i < ts.length then (hts2 i hi).choose else (none, 0), fun i hi => by simp only [dif_pos hi]; exact (hts2 i hi).choose_spec⟩
      obtain ⟨ss, hss⟩ := hss
      subst htl
      exact ⟨_, .mk m ts, rfl, RepT.intro ss (wf_in hwf) hl (by omega) (fun i hi => (hss i hi).1) (fun i hi => (hss i hi).2)⟩

theorem openTv {tT tS tI : TypeId} (ty : TreeTy P tT tS tI) {v : Value} {d : DataW H} {ps : List MemPlace} (h : DataW.Trod enc P W 0 spare held tT v d ps) (hw : (d.weights P tT).all (· ≤ reachBytes) = true) (hv : ∃ cs, v = .agg cs ∧ cs.size = P.cellsOf tT) : ∃ t, RepT (hImm W) v t := by
  obtain ⟨fuel, hf⟩ := h
  obtain ⟨s, t, hc, hr⟩ := openT ty fuel _ d ps hf hw
  obtain ⟨cs, rfl, _⟩ := hv
  have e : cs = #[.int .i64 t.head, s] := by
    apply Array.ext'
    simpa [Value.cells] using hc
  subst e
  exact ⟨t, hr⟩
theorem tr_below {w w' : World} {I I' : Imm} {δ' : List Ent} (h : Tr w I [] w' I' δ') : Below w.heap.size w w' := ⟨h.os, h.tape, h.output, h.size, fun k hk => h.same k hk (by simp [blks])⟩
end Go.Proofs.Ytdbadicpbmndbaa
/- What a row's reading of a literal says of the heap; plain facts, no condition. -/
set_option linter.unusedVariables false
set_option linter.unusedSimpArgs false
namespace Go.Proofs.Ytdbadicpbmndbaa
open Go Lg Go.ChangeShapes Go.WideShapes Go.ChangeAt Go.RowKit
variable {H : Type} {enc : TypeId × Value → H} {P : Program} {W : World} {spare : Nat → Bool} {held : Bool}
structure LiLay (P : Program) (tL tT tTs tI tb : TypeId) : Prop where
  tree : TreeTy P tT tTs tI
  str : ∃ f0 f1 f2 : Field, P.underlying tL = some (.struct #[f0, f1, f2]) ∧ (f0.type = tb ∧ f0.offset = 0) ∧ (f1.type = tT ∧ f1.offset = 1) ∧ f2.type = tT ∧ f2.offset = 3
  ub : P.underlying tb = some .bool
  cL : P.cellsOf tL = 5
  cb : P.cellsOf tb = 1
theorem openLi {tL tT tTs tI tb : TypeId} (ly : LiLay P tL tT tTs tI tb) {fuel : Nat} {cs : List Value} {x : DataW H × List MemPlace} (h : DataW.trod enc P W 0 spare held fuel tL cs = some x) (hw : (x.1.weights P tL).all (· ≤ reachBytes) = true) :
    ∃ (y : Li) (la ra : Option Addr) (lc rc : Nat), cs = [.bool y.neg, .int .i64 y.l.head, .slice la y.l.args.length lc, .int .i64 y.r.head, .slice ra y.r.args.length rc] ∧ RepT (hImm W) (.agg #[.int .i64 y.l.head, .slice la y.l.args.length lc]) y.l ∧ RepT (hImm W) (.agg #[.int .i64 y.r.head, .slice ra y.r.args.length rc]) y.r := by
  obtain ⟨f0, f1, f2, hs, ⟨e1, e2⟩, ⟨g1, g2⟩, k1, k2⟩ := ly.str
  obtain ⟨xs, n, rfl, hx, hcl, hxl, hxs⟩ := DataW.trod_struct hs h
  rw [ly.cL] at hcl
  obtain ⟨a, b, c, d, e, rfl⟩ : ∃ a b c d e, cs = [a, b, c, d, e] := by
    rcases cs with _ | ⟨a, _ | ⟨b, _ | ⟨c, _ | ⟨d, _ | ⟨e, _ | ⟨_, _⟩⟩⟩⟩⟩⟩ <;> simp at hcl
    exact ⟨a, b, c, d, e, rfl⟩
  have q0 := hxs 0 f0 rfl
  have q1 := hxs 1 f1 rfl
  have q2 := hxs 2 f2 rfl
  have hx3 : xs.length = 3 := hxl
  obtain ⟨x0, x1, x2, rfl⟩ : ∃ x0 x1 x2, xs = [x0, x1, x2] := by
    rcases xs with _ | ⟨u, _ | ⟨v, _ | ⟨w, _ | ⟨_, _⟩⟩⟩⟩ <;> simp at hx3
    exact ⟨u, v, w, rfl⟩
  rw [e1, e2, ly.cb] at q0
  rw [g1, g2, ly.tree.cT] at q1
  rw [k1, k2, ly.tree.cT] at q2
  simp only [List.drop_zero, List.drop_succ_cons, List.take_succ_cons, List.take_zero, List.getElem?_cons_zero, List.getElem?_cons_succ] at q0 q1 q2
  subst hx
  have hts : (#[f0, f1, f2] : Array Field).toList.map (·.type) = [tb, tT, tT] := by simp [e1, g1, k1]
  simp only [DataW.weights, hs, hts, List.map_cons, List.map_nil, DataW.weightsEach, List.all_append, Bool.and_eq_true] at hw
  obtain ⟨m, hm, _⟩ := DataW.trod_bool ly.ub q0
  obtain ⟨s, t, hc, hr⟩ := openT ly.tree n _ x1.1 x1.2 q1 hw.2.1
  obtain ⟨s', t', hc', hr'⟩ := openT ly.tree n _ x2.1 x2.2 q2 hw.2.2.1
  obtain ⟨sa, sc, hsh, _⟩ := hr.shape
  obtain ⟨sa', sc', hsh', _⟩ := hr'.shape
  have hse : s = .slice sa t.args.length sc := by simpa using hsh
  have hse' : s' = .slice sa' t'.args.length sc' := by simpa using hsh'
  subst hse; subst hse'
  simp only [List.cons.injEq, and_true] at hm hc hc'
  obtain ⟨rfl, rfl⟩ := hc
  obtain ⟨rfl, rfl⟩ := hc'
  subst hm
  exact ⟨⟨m, t, t'⟩, sa, sa', sc, sc', rfl, hr, hr'⟩
theorem openLv {tL tT tTs tI tb : TypeId} (ly : LiLay P tL tT tTs tI tb) {v : Value} {d : DataW H} {ps : List MemPlace} (h : DataW.Trod enc P W 0 spare held tL v d ps) (hw : (d.weights P tL).all (· ≤ reachBytes) = true) (hv : ∃ cs, v = .agg cs) : ∃ x, RepL (hImm W) v x := by
  obtain ⟨cs, rfl⟩ := hv
  obtain ⟨fuel, h1⟩ := h
  obtain ⟨y, la, ra, lc, rc, hc, hl, hr⟩ := openLi ly h1 hw
  refine ⟨y, la, lc, ra, rc, ?_, hl, hr⟩
  have : cs.toList = [.bool y.neg, .int .i64 y.l.head, .slice la y.l.args.length lc, .int .i64 y.r.head, .slice ra y.r.args.length rc] := by simpa [Value.cells] using hc
  cases cs; simp at this; subst this; rfl
end Go.Proofs.Ytdbadicpbmndbaa
/- What a row's reading of a clause, and of a script of stores, says of the heap; plain facts, no condition. -/
set_option linter.unusedVariables false
set_option linter.unusedSimpArgs false
namespace Go.Proofs.Ytdbadicpbmndbaa
open Go Lg Go.ChangeShapes Go.WideShapes Go.ChangeAt Go.RowKit
variable {H : Type} {enc : TypeId × Value → H} {P : Program} {W : World} {spare : Nat → Bool} {held : Bool}
theorem cells_allC {a : Addr} {n : Nat} {cs : List Value} (h : W.cells? 0 a n = some cs) : cs.length = n ∧ ∀ j v, cs[j]? = some v → W.cell? (a.add j) = some v := by
  simp only [World.cells?, Nat.zero_le, if_true] at h
  have key : ∀ (l : List Nat) (cs : List Value), l.mapM (fun i => W.cell? (a.add i)) = some cs → cs.length = l.length ∧ ∀ (j : Nat) (v : Value), cs[j]? = some v → ∃ i : Nat, l[j]? = some i ∧ W.cell? (a.add i) = some v := by
    intro l
    induction l with
    | nil => intro cs h; simp at h; subst h; exact ⟨rfl, fun j v h => by simp at h⟩
    | cons i l ih =>
      intro cs h
      simp only [List.mapM_cons, Option.bind_eq_bind, Option.bind_eq_some_iff, Option.pure_def, Option.some.injEq] at h
      obtain ⟨u, hu, r, hr, rfl⟩ := h
      obtain ⟨h1, h2⟩ := ih r hr
      refine ⟨by simp [h1], fun j v hj => ?_⟩
      cases j with
      | zero => simp at hj; subst hj; exact ⟨i, rfl, hu⟩
      | succ j => simpa using h2 j v (by simpa using hj)
  obtain ⟨h1, h2⟩ := key _ _ h
  refine ⟨by simpa using h1, fun j v hj => ?_⟩
  obtain ⟨i, hi, hc⟩ := h2 j v hj
  have hlt : j < n := by have := (List.getElem?_eq_some_iff.1 hi).1; simpa using this
  rw [List.getElem?_range hlt] at hi
  cases hi
  exact hc
theorem rowE_of {n : Nat} {α : Type} {E : Elt n α} {I : Imm} {ad : Option Addr} : ∀ (al : List α) (vss : List (List Value)), vss.length = al.length → (∀ i (h : i < al.length) (h' : i < vss.length), E.R I al[i] vss[i] ∧ At I ad (i * n) vss[i]) → RowE E I vss.flatten al ∧ ∀ m, (∀ i (h' : i < vss.length), At I ad (m * n + i * n) vss[i]) → ∀ j v, vss.flatten[j]? = some v → I.cellO (ad.map (·.add (m * n + j))) = some v
  | [], vss, hl, h => by
    have : vss = [] := List.eq_nil_of_length_eq_zero hl
    subst this
    exact ⟨rfl, fun m _ j v hj => by simp at hj⟩
  | a :: al, [], hl, h => by simp at hl
  | a :: al, vs :: vss, hl, h => by
    have hl' : vss.length = al.length := by simpa using hl
    have h0 := h 0 (by simp) (by simp)
    have hn : vs.length = n := E.len h0.1
    refine ⟨⟨vs, vss.flatten, rfl, h0.1, ?_⟩, ?_⟩
    · have key : ∀ (al : List α) (vss : List (List Value)), vss.length = al.length → (∀ i (h : i < al.length) (h' : i < vss.length), E.R I al[i] vss[i]) → RowE E I vss.flatten al := by
        intro al
        induction al with
        | nil => intro vss hl _; have : vss = [] := List.eq_nil_of_length_eq_zero hl; subst this; rfl
        | cons a al ih =>
          intro vss hl h
          rcases vss with _ | ⟨vs, vss⟩
          · simp at hl
          · exact ⟨vs, vss.flatten, rfl, h 0 (by simp) (by simp), ih vss (by simpa using hl) fun i h1 h2 => h (i + 1) (by simpa using h1) (by simpa using h2)⟩
      exact key al vss hl' fun i h1 h2 => (h (i + 1) (by simpa using h1) (by simpa using h2)).1
    · intro m hm j v hj
      have key : ∀ (vss : List (List Value)) (m : Nat), (∀ vs ∈ vss, vs.length = n) → (∀ i (h' : i < vss.length), At I ad (m * n + i * n) vss[i]) → ∀ j v, vss.flatten[j]? = some v → I.cellO (ad.map (·.add (m * n + j))) = some v := by
        intro vss
        induction vss with
        | nil => intro m _ _ j v hj; simp at hj
        | cons vs vss ih =>
          intro m hlen hm j v hj
          rw [List.flatten_cons] at hj
          have hvl := hlen vs (List.mem_cons_self ..)
          by_cases q : j < vs.length
          · rw [List.getElem?_append_left q] at hj
            have := hm 0 (by simp) j v hj
            simpa using this
          · rw [List.getElem?_append_right (by omega)] at hj
            have := ih (m + 1) (fun ws hw => hlen ws (List.mem_cons_of_mem _ hw)) (fun i h' => by
              have := hm (i + 1) (by simpa using h')
              rw [Nat.succ_mul] at this ⊢
              rw [show m * n + n + i * n = m * n + (i * n + n) by omega]
              simpa using this) (j - vs.length) v hj
            rw [Nat.succ_mul, show m * n + n + (j - vs.length) = m * n + j by omega] at this
            exact this
      have hlen : ∀ ws ∈ vs :: vss, ws.length = n := by
        intro ws hw
        obtain ⟨i, hi, rfl⟩ := List.getElem_of_mem hw
        exact E.len (h i (by rw [← hl]; exact hi) hi).1
      exact key (vs :: vss) m hlen hm j v hj
theorem repE_of {n : Nat} {α : Type} {E : Elt n α} {I : Imm} {ad : Option Addr} {c : Nat} (al : List α) (hc : al.length ≤ c) (hb : al.length ≤ 1954687338211) (h : ∀ i (h : i < al.length), ∃ vs, E.R I al[i] vs ∧ At I ad (i * n) vs) : RepE E I (.slice ad al.length c) al := by
  have hex : ∃ vss : List (List Value), vss.length = al.length ∧ ∀ i (h : i < al.length) (h' : i < vss.length), E.R I al[i] vss[i] ∧ At I ad (i * n) vss[i] := by
    classical
    refine ⟨(List.range al.length).map fun i => if h' : i < al.length then (h i h').choose else [], by simp, fun i h1 h2 => ?_⟩
    rw [List.getElem_map, List.getElem_range, dif_pos h1]
    exact (h i h1).choose_spec
  obtain ⟨vss, hl, hv⟩ := hex
  obtain ⟨h1, h2⟩ := rowE_of al vss hl hv
  refine ⟨ad, c, vss.flatten, rfl, hc, hb, fun j v hj => ?_, h1⟩
  have := h2 0 (fun i h' => by simpa using (hv i (by rw [← hl]; exact h') h').2) j v hj
  simpa using this
structure ClLay (P : Program) (tC tL tT tTs tI tb : TypeId) : Prop where
  lit : LiLay P tL tT tTs tI tb
  sl : P.underlying tC = some (.slice tL)
  bL : P.bytesOf tL = 72
theorem openCl {tC tL tT tTs tI tb : TypeId} (ly : ClLay P tC tL tT tTs tI tb) {fuel : Nat} {cs : List Value} {x : DataW H × List MemPlace} (h1 : DataW.trod enc P W 0 spare held fuel tC cs = some x) (hw : (x.1.weights P tC).all (· ≤ reachBytes) = true) : ∃ (a : Option Addr) (k : Nat) (c : List Li), cs = [.slice a c.length k] ∧ RepC (hImm W) (.slice a c.length k) c := by
  rcases DataW.trod_slice ly.sl h1 with ⟨hcs, _⟩ | ⟨a, len, cap, elems, rest, n', rfl, hcs, hd, _, hl, hm, hlen, hel, hsp, _⟩
  · exact ⟨none, 0, [], by simpa using hcs, RepE.nil⟩
  · obtain ⟨x1, x2⟩ := x
    obtain ⟨rfl, _⟩ := Prod.mk.inj hd
    simp only [DataW.weights, ly.sl, ly.bL, List.all_cons, List.all_append, Bool.and_eq_true, decide_eq_true_eq] at hw
    obtain ⟨hwl, hwe, _⟩ := hw
    have hwe' := weights_all hwe
    have hrb : reachBytes = 140737488351232 := rfl
    simp only [List.length_map, hlen] at hwl
    have hall : ∀ i, i < len → ∃ y : Li, ∃ vs, LitE.R (hImm W) y vs ∧ At (hImm W) (some a) (i * 5) vs := by
      intro i hi
      have hy := hel i hi
      rw [ly.lit.cL] at hy
      have hie : elems[i]? = some elems[i] := List.getElem?_eq_getElem (by omega)
      rw [hie, Option.bind_eq_some_iff] at hy
      obtain ⟨cs', hcs', htr⟩ := hy
      obtain ⟨_, hca⟩ := cells_allC hcs'
      obtain ⟨y, la, ra, lc, rc, rfl, h1, h2⟩ := openLi ly.lit htr (hwe' _ (List.mem_map.2 ⟨_, List.getElem_mem (by omega), rfl⟩))
      refine ⟨y, _, ⟨la, lc, ra, rc, rfl, h1, h2⟩, fun j v hj => ?_⟩
      have := hca j v hj
      rw [add_add] at this
      exact this
    obtain ⟨c, hcl, hc2⟩ := pick_list hall
    subst hcl
    exact ⟨some a, cap, c, by simpa using hcs, repE_of c hl (by omega) hc2⟩
theorem openCv {tC tL tT tTs tI tb : TypeId} (ly : ClLay P tC tL tT tTs tI tb) {v : Value} {d : DataW H} {ps : List MemPlace} (h : DataW.Trod enc P W 0 spare held tC v d ps) (hw : (d.weights P tC).all (· ≤ reachBytes) = true) (hv : ∃ a l c, v = .slice a l c) : ∃ c, RepC (hImm W) v c := by
  obtain ⟨a, l, c, rfl⟩ := hv
  obtain ⟨fuel, h1⟩ := h
  obtain ⟨a', k, cl, hcs, hr⟩ := openCl ly h1 hw
  simp [Value.cells] at hcs
  obtain ⟨rfl, rfl, rfl⟩ := hcs
  exact ⟨cl, hr⟩
end Go.Proofs.Ytdbadicpbmndbaa
/- What a row's reading of a signature, and of a name, says of the heap; plain facts, no condition. -/
set_option linter.unusedVariables false
set_option linter.unusedSimpArgs false
namespace Go.Proofs.Ytdbadicpbmndbaa
open Go Lg Go.ChangeShapes Go.WideShapes Go.ChangeAt Go.RowKit
variable {H : Type} {enc : TypeId × Value → H} {P : Program} {W : World} {spare : Nat → Bool} {held : Bool}
theorem cells_all {a : Addr} {n : Nat} {cs : List Value} (h : W.cells? 0 a n = some cs) : cs.length = n ∧ ∀ j v, cs[j]? = some v → W.cell? (a.add j) = some v := by
  simp only [World.cells?, Nat.zero_le, if_true] at h
  have key : ∀ (l : List Nat) (cs : List Value), l.mapM (fun i => W.cell? (a.add i)) = some cs → cs.length = l.length ∧ ∀ (j : Nat) (v : Value), cs[j]? = some v → ∃ i : Nat, l[j]? = some i ∧ W.cell? (a.add i) = some v := by
    intro l
    induction l with
    | nil => intro cs h; simp at h; subst h; exact ⟨rfl, fun j v h => by simp at h⟩
    | cons i l ih =>
      intro cs h
      simp only [List.mapM_cons, Option.bind_eq_bind, Option.bind_eq_some_iff, Option.pure_def, Option.some.injEq] at h
      obtain ⟨u, hu, r, hr, rfl⟩ := h
      obtain ⟨h1, h2⟩ := ih r hr
      refine ⟨by simp [h1], fun j v hj => ?_⟩
      cases j with
      | zero => simp at hj; subst hj; exact ⟨i, rfl, hu⟩
      | succ j => simpa using h2 j v (by simpa using hj)
  obtain ⟨h1, h2⟩ := key _ _ h
  refine ⟨by simpa using h1, fun j v hj => ?_⟩
  obtain ⟨i, hi, hc⟩ := h2 j v hj
  have hlt : j < n := by have := (List.getElem?_eq_some_iff.1 hi).1; simpa using this
  rw [List.getElem?_range hlt] at hi
  cases hi
  exact hc

structure SyLay (P : Program) (tS tG ts ti tb : TypeId) : Prop where
  ty : SyTy P tG ts ti tb
  sl : P.underlying tS = some (.slice tG)
  cG : P.cellsOf tG = 4
  cs : P.cellsOf ts = 1
  ci : P.cellsOf ti = 1
  cb : P.cellsOf tb = 1
  bG : P.bytesOf tG = 40
theorem openSy {tS tG ts ti tb : TypeId} (ly : SyLay P tS tG ts ti tb) {fuel : Nat} {cs : List Value} {x : DataW H × List MemPlace} (h : DataW.trod enc P W 0 spare held fuel tG cs = some x) : ∃ s : Sy, cs = s.cs ∧ s.ok := by
  obtain ⟨f0, f1, f2, f3, hs, ⟨e1, e2, e3⟩, ⟨g1, g2, g3⟩, ⟨h1, h2, h3⟩, k1, k2, k3⟩ := ly.ty.str
  obtain ⟨xs, n, rfl, hx, hcl, hxl, hxs⟩ := DataW.trod_struct hs h
  rw [ly.cG] at hcl
  obtain ⟨a, b, c, d, rfl⟩ : ∃ a b c d, cs = [a, b, c, d] := by
    rcases cs with _ | ⟨a, _ | ⟨b, _ | ⟨c, _ | ⟨d, _ | ⟨_, _⟩⟩⟩⟩⟩ <;> simp at hcl
    exact ⟨a, b, c, d, rfl⟩
  have q0 := hxs 0 f0 rfl
  have q1 := hxs 1 f1 rfl
  have q2 := hxs 2 f2 rfl
  have q3 := hxs 3 f3 rfl
  have hx4 : xs.length = 4 := hxl
  rw [List.getElem?_eq_getElem (by omega), e1, e2, ly.cs] at q0
  rw [List.getElem?_eq_getElem (by omega), g1, g2, ly.ci] at q1
  rw [List.getElem?_eq_getElem (by omega), h1, h2, ly.ci] at q2
  rw [List.getElem?_eq_getElem (by omega), k1, k2, ly.cb] at q3
  obtain ⟨s0, z0, _, w0⟩ := DataW.trod_string ly.ty.us q0
  obtain ⟨s1, z1, _, w1⟩ := DataW.trod_int ly.ty.ui q1
  obtain ⟨s2, z2, _, w2⟩ := DataW.trod_int ly.ty.ui q2
  obtain ⟨s3, z3, _⟩ := DataW.trod_bool ly.ty.ub q3
  simp at z0 z1 z2 z3
  subst z0; subst z1; subst z2; subst z3
  exact ⟨⟨s0, s1, s2, s3⟩, rfl, wf_in w1, wf_in w2, w0⟩
theorem openGv {tS tG ts ti tb : TypeId} (ly : SyLay P tS tG ts ti tb) {v : Value} {d : DataW H} {ps : List MemPlace} (h : DataW.Trod enc P W 0 spare held tS v d ps) (hw : (d.weights P tS).all (· ≤ reachBytes) = true) (hv : ∃ a len cap, v = .slice a len cap) : ∃ gs, RepG (hImm W) v gs := by
  obtain ⟨a0, len0, cap0, rfl⟩ := hv
  obtain ⟨fuel, h1⟩ := h
  rcases DataW.trod_slice ly.sl h1 with ⟨hcs, _⟩ | ⟨a, len, cap, elems, rest, n', rfl, hcs, hd, _, hl, hm, hlen, hel, hsp, _⟩
  · simp [Value.cells] at hcs
    obtain ⟨rfl, rfl, rfl⟩ := hcs
    exact ⟨[], none, 0, [], Nat.le_refl _, by simp, fun i hi => by simp at hi, fun s hs => by cases hs⟩
  · simp [Value.cells] at hcs
    obtain ⟨rfl, rfl, rfl⟩ := hcs
    obtain ⟨rfl, _⟩ := Prod.mk.inj hd
    simp only [DataW.weights, ly.sl, ly.bG, List.all_cons, List.all_append, Bool.and_eq_true, decide_eq_true_eq] at hw
    obtain ⟨hwl, hwe, _⟩ := hw
    have hrb : reachBytes = 140737488351232 := rfl
    simp only [List.length_map, hlen] at hwl
    have hall : ∀ i, i < len0 → ∃ s : Sy, At (hImm W) (some a) (i * 4) s.cs ∧ s.ok := by
      intro i hi
      have hy := hel i hi
      rw [ly.cG] at hy
      have hie : elems[i]? = some elems[i] := List.getElem?_eq_getElem (by omega)
      rw [hie, Option.bind_eq_some_iff] at hy
      obtain ⟨cs, hcs, htr⟩ := hy
      obtain ⟨_, hca⟩ := cells_all hcs
      obtain ⟨s, rfl, hok⟩ := openSy ly htr
      refine ⟨s, fun j v hj => ?_, hok⟩
      have := hca j v hj
      rw [add_add] at this
      exact this
    obtain ⟨gs, hgl, hg2⟩ := pick_list hall
    subst hgl
    exact ⟨gs, some a, cap0, gs, hl, by omega, fun i hi => (hg2 i hi).1, fun s hs => by obtain ⟨i, hi, rfl⟩ := List.getElem_of_mem hs; exact (hg2 i hi).2⟩
end Go.Proofs.Ytdbadicpbmndbaa
/- What a row's reading of a substitution says of the heap; plain facts, no condition. -/
set_option linter.unusedVariables false
set_option linter.unusedSimpArgs false
namespace Go.Proofs.Ytdbadicpbmndbaa
open Go Lg Go.ChangeShapes Go.WideShapes Go.ChangeAt Go.RowKit
variable {H : Type} {enc : TypeId × Value → H} {P : Program} {W : World} {spare : Nat → Bool} {held : Bool}
structure BiLay (P : Program) (tS tB tT tTs tI : TypeId) : Prop where
  tree : TreeTy P tT tTs tI
  str : ∃ f0 f1 : Field, P.underlying tB = some (.struct #[f0, f1]) ∧ f0.type = tI ∧ f0.offset = 0 ∧ f1.type = tT ∧ f1.offset = 1
  sl : P.underlying tS = some (.slice tB)
  cB : P.cellsOf tB = 3
  bB : P.bytesOf tB = 40
theorem openBi {tS tB tT tTs tI : TypeId} (ly : BiLay P tS tB tT tTs tI) {fuel : Nat} {cs : List Value} {x : DataW H × List MemPlace} (h : DataW.trod enc P W 0 spare held fuel tB cs = some x) (hw : (x.1.weights P tB).all (· ≤ reachBytes) = true) :
    ∃ (n : Int) (t : T) (s : Option Addr × Nat), cs = [.int .i64 n, .int .i64 t.head, .slice s.1 t.args.length s.2] ∧ InR n ∧ RepT (hImm W) (.agg #[.int .i64 t.head, .slice s.1 t.args.length s.2]) t := by
  obtain ⟨f0, f1, hs, e1, e2, g1, g2⟩ := ly.str
  obtain ⟨xs, n, rfl, hx, hcl, hxl, hxs⟩ := DataW.trod_struct hs h
  rw [ly.cB] at hcl
  obtain ⟨a, b, c, rfl⟩ : ∃ a b c, cs = [a, b, c] := by
    rcases cs with _ | ⟨a, _ | ⟨b, _ | ⟨c, _ | ⟨_, _⟩⟩⟩⟩ <;> simp at hcl
    exact ⟨a, b, c, rfl⟩
  have q0 := hxs 0 f0 rfl
  have q1 := hxs 1 f1 rfl
  have hx2 : xs.length = 2 := hxl
  obtain ⟨x0, x1, rfl⟩ : ∃ x0 x1, xs = [x0, x1] := by
    rcases xs with _ | ⟨u, _ | ⟨v, _ | ⟨_, _⟩⟩⟩ <;> simp at hx2
    exact ⟨u, v, rfl⟩
  rw [e1, e2, ly.tree.cI] at q0
  rw [g1, g2, ly.tree.cT] at q1
  simp only [List.drop_zero, List.drop_succ_cons, List.take_succ_cons, List.take_zero, List.getElem?_cons_zero, List.getElem?_cons_succ] at q0 q1
  subst hx
  have hts : (#[f0, f1] : Array Field).toList.map (·.type) = [tI, tT] := by simp [e1, g1]
  simp only [DataW.weights, hs, hts, List.map_cons, List.map_nil, DataW.weightsEach, List.all_append, Bool.and_eq_true] at hw
  obtain ⟨m, hm, _, hwf⟩ := DataW.trod_int ly.tree.int q0
  obtain ⟨s, t, hc, hr⟩ := openT ly.tree n _ x1.1 x1.2 q1 hw.2.1
  obtain ⟨sa, sc, hsh, _⟩ := hr.shape
  have hse : s = .slice sa t.args.length sc := by simpa using hsh
  subst hse
  simp only [List.cons.injEq, and_true] at hm hc
  obtain ⟨rfl, rfl⟩ := hc
  subst hm
  exact ⟨m, t, (sa, sc), rfl, wf_in hwf, hr⟩
theorem openBv {tS tB tT tTs tI : TypeId} (ly : BiLay P tS tB tT tTs tI) {v : Value} {d : DataW H} {ps : List MemPlace} (h : DataW.Trod enc P W 0 spare held tS v d ps) (hw : (d.weights P tS).all (· ≤ reachBytes) = true) (hv : ∃ a len cap, v = .slice a len cap) : ∃ bs, RepB (hImm W) v bs := by
  obtain ⟨a0, len0, cap0, rfl⟩ := hv
  obtain ⟨fuel, h1⟩ := h
  rcases DataW.trod_slice ly.sl h1 with ⟨hcs, _⟩ | ⟨a, len, cap, elems, rest, n', rfl, hcs, hd, _, hl, hm, hlen, hel, hsp, _⟩
  · simp [Value.cells] at hcs
    obtain ⟨rfl, rfl, rfl⟩ := hcs
    exact ⟨[], none, 0, fun _ => (none, 0), [], Nat.le_refl _, by simp, fun i hi => by simp at hi, fun i hi => by simp at hi, fun i hi => by simp at hi⟩
  · simp [Value.cells] at hcs
    obtain ⟨rfl, rfl, rfl⟩ := hcs
    obtain ⟨rfl, _⟩ := Prod.mk.inj hd
    simp only [DataW.weights, ly.sl, ly.bB, List.all_cons, List.all_append, Bool.and_eq_true, decide_eq_true_eq] at hw
    obtain ⟨hwl, hwe, _⟩ := hw
    have hwe' := weights_all hwe
    have hrb : reachBytes = 140737488351232 := rfl
    simp only [List.length_map, hlen] at hwl
    have hall : ∀ i, i < len0 → ∃ b : Bi × (Option Addr × Nat), At (hImm W) (some a) (i * 3) [.int .i64 b.1.1, .int .i64 b.1.2.head, .slice b.2.1 b.1.2.args.length b.2.2] ∧ InR b.1.1 ∧ RepT (hImm W) (.agg #[.int .i64 b.1.2.head, .slice b.2.1 b.1.2.args.length b.2.2]) b.1.2 := by
      intro i hi
      have hy := hel i hi
      rw [ly.cB] at hy
      have hie : elems[i]? = some elems[i] := List.getElem?_eq_getElem (by omega)
      rw [hie, Option.bind_eq_some_iff] at hy
      obtain ⟨cs, hcs, htr⟩ := hy
      obtain ⟨_, hca⟩ := cells_all hcs
      obtain ⟨n, t, s, rfl, hn, hr⟩ := openBi ly htr (hwe' _ (List.mem_map.2 ⟨_, List.getElem_mem (by omega), rfl⟩))
      refine ⟨((n, t), s), fun j v hj => ?_, hn, hr⟩
      have := hca j v hj
      rw [add_add] at this
      exact this
    obtain ⟨bl, hbl, hb2⟩ := pick_list hall
    subst hbl
    have key := RepB.mk (I := hImm W) (some a) cap0 (fun i => (bl.getD i ((0, zeroT), (none, 0))).2) (bl.map (·.1)) (by simpa using hl) (by simp; omega) (fun i hi => by
      have hi' : i < bl.length := by simpa using hi
      have := (hb2 i hi').1
      simpa [List.getElem?_eq_getElem hi'] using this) (fun i hi => by
      have hi' : i < bl.length := by simpa using hi
      simpa using (hb2 i hi').2.1) (fun i hi => by
      have hi' : i < bl.length := by simpa using hi
      have := (hb2 i hi').2.2
      simpa [List.getElem?_eq_getElem hi'] using this)
    rw [List.length_map] at key
    exact ⟨_, key⟩
end Go.Proofs.Ytdbadicpbmndbaa
/- What a row's reading of a world says of the heap; plain facts, no condition. -/
set_option linter.unusedVariables false
set_option linter.unusedSimpArgs false
namespace Go.Proofs.Ytdbadicpbmndbaa
open Go Lg Go.ChangeShapes Go.WideShapes Go.ChangeAt Go.RowKit
variable {H : Type} {enc : TypeId × Value → H} {P : Program} {W : World} {spare : Nat → Bool} {held : Bool}
structure WdLay (P : Program) (tW tR tIs tI : TypeId) : Prop where
  str : ∃ f0 f1 : Field, P.underlying tW = some (.struct #[f0, f1]) ∧ (f0.type = tI ∧ f0.offset = 0) ∧ f1.type = tR ∧ f1.offset = 1
  slR : P.underlying tR = some (.slice tIs)
  slI : P.underlying tIs = some (.slice tI)
  int : P.underlying tI = some (.int .i64)
  cW : P.cellsOf tW = 2
  cR : P.cellsOf tR = 1
  cIs : P.cellsOf tIs = 1
  cI : P.cellsOf tI = 1
  bIs : P.bytesOf tIs = 24
  bI : P.bytesOf tI = 8
theorem openRs {tR tIs tI : TypeId} (slR : P.underlying tR = some (.slice tIs)) (slI : P.underlying tIs = some (.slice tI)) (int : P.underlying tI = some (.int .i64)) (cIs : P.cellsOf tIs = 1) (cI : P.cellsOf tI = 1) (bIs : P.bytesOf tIs = 24) (bI : P.bytesOf tI = 8)
    {fuel : Nat} {v : Value} {x : DataW H × List MemPlace} (h : DataW.trod enc P W 0 spare held fuel tR [v] = some x) (hw : (x.1.weights P tR).all (· ≤ reachBytes) = true) :
    ∃ (A : Option Addr) (c : Nat) (ps : List (List Int)) (ys : List Value), v = .slice A ps.length c ∧ ps.length ≤ 6000000000000 ∧ Cells (hImm W) A ys ∧ RowP (hImm W) ys ps := by
  rcases DataW.trod_slice slR h with ⟨hcs, _⟩ | ⟨a, len, cap, elems, rest, n', rfl, hcs, hd, _, hl, hm, hlen, hel, hsp, _⟩
  · simp at hcs
    subst hcs
    exact ⟨none, 0, [], [], rfl, by simp, fun j v hj => by simp at hj, RowP.nil _⟩
  · simp at hcs
    subst hcs
    subst hd
    simp only [DataW.weights, slR, bIs, List.all_cons, List.all_append, Bool.and_eq_true, decide_eq_true_eq] at hw
    obtain ⟨hwl, hwe, _⟩ := hw
    have hwe' := weights_all hwe
    have hrb : reachBytes = 140737488351232 := rfl
    simp only [List.length_map, hlen] at hwl
    have hall : ∀ i, i < len → ∃ b : Value × List Int, W.cell? (a.add i) = some b.1 ∧ RInts (hImm W) b.1 b.2 := by
      intro i hi
      have hy := hel i hi
      rw [cIs] at hy
      have hie : elems[i]? = some elems[i] := List.getElem?_eq_getElem (by omega)
      rw [hie, Option.bind_eq_some_iff] at hy
      obtain ⟨cs, hcs, htr⟩ := hy
      obtain ⟨hcl, hca⟩ := cells_all hcs
      obtain ⟨u, rfl⟩ : ∃ u, cs = [u] := by
        rcases cs with _ | ⟨u, _ | ⟨_, _⟩⟩ <;> simp at hcl
        exact ⟨u, rfl⟩
      have hc0 := hca 0 u rfl
      rw [add_add, Nat.mul_one, Nat.add_zero] at hc0
      have hu : ∃ a l c, u = .slice a l c := by
        rcases DataW.trod_slice slI htr with ⟨hq, _⟩ | ⟨a, l, c, _, _, _, _, hq, _⟩
        · exact ⟨none, 0, 0, by simpa using hq⟩
        · exact ⟨some a, l, c, by simpa using hq⟩
      obtain ⟨ua, ul, uc, rfl⟩ := hu
      obtain ⟨ys, hys⟩ := openI (d := elems[i].1) (ps := elems[i].2) slI int cI bI ⟨_, htr⟩ (hwe' _ (List.mem_map.2 ⟨_, List.getElem_mem (by omega), rfl⟩))
      exact ⟨(_, ys), hc0, hys⟩
    obtain ⟨bl, hbl, hb2⟩ := pick_list hall
    subst hbl
    refine ⟨some a, cap, bl.map (·.2), bl.map (·.1), by simp, by simp; omega, fun j v hj => ?_, ⟨by simp, fun i hi => ⟨(bl[i]'(by simpa using hi)).1, by simp [show i < bl.length by simpa using hi], by simpa using (hb2 i (by simpa using hi)).2⟩⟩⟩
    · (
      rw [List.getElem?_map] at hj
      cases hq : bl[j]? with
      | none => rw [hq] at hj; simp at hj
      | some b =>
        rw [hq] at hj; simp at hj; subst hj
        obtain ⟨hlt, rfl⟩ := List.getElem?_eq_some_iff.1 hq
        exact (hb2 j hlt).1)
theorem openWv {tW tR tIs tI : TypeId} (ly : WdLay P tW tR tIs tI) {v : Value} {d : DataW H} {ps : List MemPlace} (h : DataW.Trod enc P W 0 spare held tW v d ps) (hw : (d.weights P tW).all (· ≤ reachBytes) = true) (hv : ∃ cs, v = .agg cs) : ∃ w, RepW (hImm W) v w := by
  obtain ⟨cs, rfl⟩ := hv
  obtain ⟨fuel, h1⟩ := h
  obtain ⟨f0, f1, hs, ⟨e1, e2⟩, g1, g2⟩ := ly.str
  obtain ⟨xs, n, rfl, hx, hcl, hxl, hxs⟩ := DataW.trod_struct hs h1
  rw [ly.cW] at hcl
  obtain ⟨a, b, hcsl⟩ : ∃ a b, (Value.agg cs).cells.toList = [a, b] := by
    generalize (Value.agg cs).cells.toList = l at hcl
    rcases l with _ | ⟨a, _ | ⟨b, _ | ⟨_, _⟩⟩⟩ <;> simp at hcl
    exact ⟨a, b, rfl⟩
  have q0 := hxs 0 f0 rfl
  have q1 := hxs 1 f1 rfl
  have hx2 : xs.length = 2 := hxl
  obtain ⟨x0, x1, rfl⟩ : ∃ x0 x1, xs = [x0, x1] := by
    rcases xs with _ | ⟨u, _ | ⟨v, _ | ⟨_, _⟩⟩⟩ <;> simp at hx2
    exact ⟨u, v, rfl⟩
  rw [e1, e2, ly.cI, hcsl] at q0
  rw [g1, g2, ly.cR, hcsl] at q1
  simp only [List.drop_zero, List.drop_succ_cons, List.take_succ_cons, List.take_zero, List.getElem?_cons_zero, List.getElem?_cons_succ] at q0 q1
  have hd : d = _ := (Prod.mk.inj hx).1
  subst hd
  have hts : (#[f0, f1] : Array Field).toList.map (·.type) = [tI, tR] := by simp [e1, g1]
  simp only [DataW.weights, hs, hts, List.map_cons, List.map_nil, DataW.weightsEach, List.all_append, Bool.and_eq_true] at hw
  obtain ⟨m, hm, _, hwf⟩ := DataW.trod_int ly.int q0
  obtain ⟨A, c, rs, ys, hb, hrl, hrc, hr⟩ := openRs ly.slR ly.slI ly.int ly.cIs ly.cI ly.bIs ly.bI q1 hw.2.1
  simp only [List.cons.injEq, and_true] at hm
  subst hm; subst hb
  refine ⟨⟨m, rs⟩, wf_in hwf, A, c, ys, ?_, hrl, hrc, hr⟩
  have : cs.toList = [.int .i64 m, .slice A rs.length c] := by simpa [Value.cells] using hcsl
  cases cs; simp at this; subst this; rfl
end Go.Proofs.Ytdbadicpbmndbaa
