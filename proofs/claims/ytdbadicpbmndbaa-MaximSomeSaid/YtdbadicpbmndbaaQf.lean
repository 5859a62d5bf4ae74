/- Walk: some literal is maximal: the statement. -/
import Derived.Test.YtdbadicpbmndbaaZ5
set_option linter.unusedVariables false
set_option linter.unusedSimpArgs false
set_option linter.unnecessarySimpa false
/- short -/
namespace Go.Proofs.Ytdbadicpbmndbaa
open Go Lg

theorem maxE_in {gs : List Sy} {c : List Li} {k : Nat} (h : chkC gs c = 0) (hk : k < c.length) : maxE gs c k = 0 := by
  unfold maxE; rw [if_neg (by rw [h]; simp), if_neg (by omega)]
theorem maxB_in {gs : List Sy} {c : List Li} {k : Nat} (s : Bool) (h : chkC gs c = 0) (hk : k < c.length) : maxB gs c k s = topG gs c k s := by
  unfold maxB; rw [if_pos (maxE_in h hk), Int.toNat_natCast]
theorem top_strict {gs : List Sy} {c : List Li} {k : Nat} (hk : k < c.length) (h : topG gs c k true = true) : topG gs c k false = true :=
  (topG_iff hk).2 fun j hj => by
    rcases (topG_iff hk).1 h j hj with e | hu
    · exact .inl e
    · right; unfold undB at hu ⊢
      rw [Bool.and_eq_true] at hu
      simpa using hu.1
theorem top_more {gs : List Sy} {c : List Li} {k j : Nat} (hk : k < c.length) (hj : j < c.length) (h : topG gs c k false = true) : mulG gs (rowL c[j]) (rowL c[k]) ≠ 1 := by
  by_cases e : j = k
  · subst e
    rw [mulG_zero.2 (List.Perm.refl _)]; decide
  · rcases (topG_iff hk).1 h j hj with q | hu
    · exact absurd q e
    · unfold undB at hu
      simpa using hu
theorem top_even {gs : List Sy} {c : List Li} {k j : Nat} (hk : k < c.length) (hj : j < c.length) (h : topG gs c k true = true) (hjk : j ≠ k) : mulG gs (rowL c[j]) (rowL c[k]) ≠ 0 := by
  rcases (topG_iff hk).1 h j hj with q | hu
  · exact absurd q hjk
  · unfold undB at hu
    rw [Bool.and_eq_true] at hu
    simpa using hu.2
def someG (gs : List Sy) (c : List Li) (k : Nat) : Bool := decide (c.length = 0) || (List.range k).any fun i => topG gs c i false
theorem someG_succ (gs : List Sy) (c : List Li) (k : Nat) : someG gs c (k + 1) = (someG gs c k || topG gs c k false) := by
  unfold someG; rw [List.range_succ, List.any_append]; simp [Bool.or_assoc]
theorem someG_all {gs : List Sy} {c : List Li} (h : chkC gs c = 0) : someG gs c c.length = true := by
  unfold someG
  by_cases h0 : c.length = 0
  · simp [h0]
  · obtain ⟨m, hm, ht⟩ := topX (gtL_ord gs) c (by omega) (fun x hx => litG_ok ((chkC_ok h).2.2 x hx))
    obtain ⟨i, hi, rfl⟩ := List.getElem_of_mem hm
    rw [Bool.or_eq_true]; right
    refine List.any_eq_true.2 ⟨i, List.mem_range.2 hi, (topG_iff hi).2 fun k hk => .inr ?_⟩
    have := ht c[k] (List.getElem_mem hk)
    unfold gtL at this
    unfold undB; rw [this]; rfl
theorem MaximSome_does {I : Imm} {vg va : Value} {gs : List Sy} {c : List Li} (hg : RepG I vg gs) (hv : RepC I va c) :
    Does Try.prog 9 [vg, va] I [] (fun v I' δ' => v = .bool true ∧ δ' = []) := by
  obtain ⟨ad, c0, xs, rfl, hc, hb, hcells, hrow⟩ := id hv
  refine Does.intro Try.func9 rfl Try.ntmps9 rfl fun w0 => ?_
  refine code_seq ?_
  refine code_region ?_
  refine op_v (v_assign rfl) rfl ?_
  refine ops_nil ?_
  refine post_next ?_
  refine code_seq ?_
  refine code_seq ?_
  refine code_region ?_
  refine op_v (v_move rfl) rfl ?_
  refine op_v (v_move rfl) rfl ?_
  refine op_call pl45 rfl rfl ((few11_does hg hv)) Parts.none ?_
  rintro v16 I16 _ hI16 ⟨⟨b16, rfl, hb16⟩, rfl⟩
  refine op_v (v_not rfl) rfl ?_
  by_cases h18 : b16 = true
  · subst h18
    obtain ⟨hf, _⟩ := hb16 rfl
    have hsm := hf.sm
    refine op_v (v_move rfl) rfl ?_
    first
      | (refine op_want rfl rfl ?_
         refine op_v (v_move rfl) rfl ?_)
      | (refine op_skip rfl rfl (by simp [undef]) rfl ?_)
    first
      | (refine op_want rfl rfl ?_
         refine op_v (v_len Try.underlying26 rfl) rfl ?_)
      | (refine op_skip rfl rfl (by simp [undef]) rfl ?_)
    by_cases h21 : 10 < c.length
    · first
        | (refine op_want rfl rfl ?_
           refine op_v (v_cmpt rfl rfl rfl (by omega)) rfl ?_)
        | (refine op_skip rfl rfl (by simp [undef]) rfl ?_)
      first | refine op_v (v_pickt rfl rfl) rfl ?_ | refine op_v (v_pickf rfl rfl) rfl ?_ | refine op_v (v_pickb rfl rfl rfl) rfl ?_
      refine ops_nil ?_
      refine post_next ?_
      refine code_cond_t rfl ?_
      refine code_seq ?_
      refine code_region ?_
      refine op_v (v_assign rfl) rfl ?_
      refine ops_nil ?_
      refine post_next ?_
      refine code_ret ?_
      refine post_ret_then ?_
      refine post_ret (rs := [.tmp 4]) rfl (List.Perm.refl _) (.cons (.tmp rfl) .nil) (List.nil_sublist _) ?_
      exact ⟨rfl, rfl⟩
    · first
        | (refine op_want rfl rfl ?_
           refine op_v (v_cmpf rfl rfl rfl (by omega)) rfl ?_)
        | (refine op_skip rfl rfl (by simp [undef]) rfl ?_)
      first | refine op_v (v_pickt rfl rfl) rfl ?_ | refine op_v (v_pickf rfl rfl) rfl ?_ | refine op_v (v_pickb rfl rfl rfl) rfl ?_
      refine ops_nil ?_
      refine post_next ?_
      refine code_cond_f rfl ?_
      refine code_skip ?_
      refine post_next ?_
      refine code_seq ?_
      refine code_seq ?_
      refine code_region ?_
      refine op_v (v_move rfl) rfl ?_
      refine op_v (v_move rfl) rfl ?_
      refine op_call pl46 rfl rfl ((CCheck_does (hg.mono Imm.leA) (hv.mono Imm.leA) hsm)) Parts.none ?_
      rintro v25 I25 _ hI25 ⟨rfl, rfl⟩
      by_cases h26 : chkC gs c ≠ 0
      · first | refine op_v (v_cmptA rfl rfl rfl) rfl ?_ | refine op_v (v_cmpfA rfl rfl rfl) rfl ?_ | refine op_v (v_cmp rfl rfl rfl) rfl ?_
        refine ops_nil ?_
        refine post_next ?_
        refine code_cond_t rfl ?_
        refine code_seq ?_
        refine code_region ?_
        refine op_call pl47 rfl rfl ((awake11_does _)) Parts.none ?_
        rintro v27 I27 _ hI27 ⟨rfl, rfl⟩
        refine op_v (v_assign rfl) rfl ?_
        refine ops_nil ?_
        refine post_next ?_
        refine code_ret ?_
        refine post_ret_then ?_
        refine post_ret (rs := [.tmp 4]) rfl (List.Perm.refl _) (.cons (.tmp rfl) .nil) (List.nil_sublist _) ?_
        exact ⟨rfl, rfl⟩
      · have hchk : chkC gs c = 0 := Classical.not_not.1 h26
        first | refine op_v (v_cmptA rfl rfl rfl) rfl ?_ | refine op_v (v_cmpfA rfl rfl rfl) rfl ?_ | refine op_v (v_cmp rfl rfl rfl) rfl ?_
        refine ops_nil ?_
        refine post_next ?_
        refine code_cond_f rfl ?_
        refine code_skip ?_
        refine post_next ?_
        refine code_seq ?_
        refine code_region ?_
        refine op_v (v_move rfl) rfl ?_
        refine op_v (v_len Try.underlying26 rfl) rfl ?_
        refine op_v (v_cmp (z := decide (c.length = 0)) rfl rfl (by simp [cmpI])) rfl ?_
        refine op_v (v_assign rfl) rfl ?_
        refine ops_nil ?_
        refine post_next ?_
        refine code_seq ?_
        refine code_seq ?_
        refine code_region ?_
        refine op_v (v_assign rfl) rfl ?_
        refine ops_nil ?_
        refine post_next ?_
        refine code_block ?_
        refine code_loop (fun m σ' I' δ' => ∃ k : Nat, m = c.length - k ∧ k ≤ c.length ∧ σ' = [(0, vg), (1, .slice ad c.length c0), (5, .bool (someG gs c k)), (6, .int .i64 k)] ∧ I25.le I' ∧ δ' = []) c.length [(0, vg), (1, .slice ad c.length c0), (5, .bool (someG gs c 0)), (6, .int .i64 (0 : Nat))] ⟨0, rfl, Nat.zero_le _, rfl, Imm.le_refl _, rfl⟩ ⟨rfl, rfl, by rw [show someG gs c 0 = decide (c.length = 0) from by simp [someG]]; rfl, rfl, trivial⟩ ?_
        rintro m _ I0 _ ⟨k, rfl, hk, rfl, hI0, rfl⟩
        refine code_seq ?_
        refine code_seq ?_
        refine code_region ?_
        refine op_v (v_move rfl) rfl ?_
        refine op_v (v_move rfl) rfl ?_
        refine op_v (v_len Try.underlying26 rfl) rfl ?_
        first | refine op_v (v_cmptA rfl rfl rfl) rfl ?_ | refine op_v (v_cmpfA rfl rfl rfl) rfl ?_ | refine op_v (v_cmp rfl rfl rfl) rfl ?_
        refine ops_nil ?_
        refine post_next ?_
        refine code_cond rfl (fun hc2 => ?_) (fun hc2 => ?_)
        · have hlt : k < c.length := by simpa using hc2
          obtain ⟨vk, ⟨la, lc, ra, rc, rfl, hkl, hkr⟩, hatk⟩ := hrow.cellsAt hcells hlt
          have hsk := hsm.at hlt
          have hsu := someG_succ gs c k
          refine code_skip ?_
          refine post_next ?_
          refine code_seq ?_
          refine code_block ?_
          refine code_seq ?_
          refine code_region ?_
          refine op_v (v_move rfl) rfl ?_
          refine op_v (v_move rfl) rfl ?_
          refine op_v (v_move rfl) rfl ?_
          refine op_call pl48 rfl rfl ((Maximal_does (i := (k : Int)) (s := false) (hg.mono Imm.leA) (hv.mono Imm.leA) hsm)) Parts.none ?_
          rintro v41 I41 _ hI41 ⟨rfl, rfl⟩
          rw [maxE_in hchk hlt, maxB_in _ hchk hlt]
          refine op_v (v_move rfl) rfl ?_
          by_cases hA : topG gs c k false = true
          · rw [hA]
            rw [hA, Bool.or_true] at hsu
            refine op_v (v_extract rfl rfl) rfl ?_
            refine op_v (v_extract rfl rfl) rfl ?_
            refine op_v (v_assign rfl) rfl ?_
            refine op_v (v_assign rfl) rfl ?_
            refine ops_nil ?_
            refine post_next ?_
            refine code_seq ?_
            refine code_region ?_
            refine op_v (v_move rfl) rfl ?_
            refine op_v (v_move rfl) rfl ?_
            refine op_v (v_move rfl) rfl ?_
            refine op_call pl48 rfl rfl ((Maximal_does (i := (k : Int)) (s := true) (hg.mono Imm.leA) (hv.mono Imm.leA) hsm)) Parts.none ?_
            rintro v48 I48 _ hI48 ⟨rfl, rfl⟩
            rw [maxE_in hchk hlt, maxB_in _ hchk hlt]
            refine op_v (v_move rfl) rfl ?_
            by_cases hB : topG gs c k true = true
            · rw [hB]
              refine op_v (v_extract rfl rfl) rfl ?_
              refine op_v (v_extract rfl rfl) rfl ?_
              refine op_v (v_assign rfl) rfl ?_
              refine op_v (v_assign rfl) rfl ?_
              refine ops_nil ?_
              refine post_next ?_
              refine code_seq ?_
              refine code_seq ?_
              refine code_region ?_
              refine op_v (v_move rfl) rfl ?_
              first | refine op_v (v_cmptA rfl rfl rfl) rfl ?_ | refine op_v (v_cmpfA rfl rfl rfl) rfl ?_ | refine op_v (v_cmp rfl rfl rfl) rfl ?_
              refine op_v (v_move rfl) rfl ?_
              first
                | (refine op_want rfl rfl ?_
                   refine op_v (v_move rfl) rfl ?_)
                | (refine op_skip rfl rfl (by simp [undef]) rfl ?_)
              first
                | (refine op_want rfl rfl ?_
                   first | refine op_v (v_cmptA rfl rfl rfl) rfl ?_ | refine op_v (v_cmpfA rfl rfl rfl) rfl ?_ | refine op_v (v_cmp rfl rfl rfl) rfl ?_)
                | (refine op_skip rfl rfl (by simp [undef]) rfl ?_)
              first | refine op_v (v_pickt rfl rfl) rfl ?_ | refine op_v (v_pickf rfl rfl) rfl ?_ | refine op_v (v_pickb rfl rfl rfl) rfl ?_
              refine op_v (v_move rfl) rfl ?_
              first
                | (refine op_want rfl rfl ?_
                   refine op_v (v_move rfl) rfl ?_)
                | (refine op_skip rfl rfl (by simp [undef]) rfl ?_)
              first
                | (refine op_want rfl rfl ?_
                   refine op_v (v_move rfl) rfl ?_)
                | (refine op_skip rfl rfl (by simp [undef]) rfl ?_)
              first
                | (refine op_want rfl rfl ?_
                   refine op_v (v_move rfl) rfl ?_)
                | (refine op_skip rfl rfl (by simp [undef]) rfl ?_)
              first
                | (refine op_want rfl rfl ?_
                   refine op_v (v_not rfl) rfl ?_)
                | (refine op_skip rfl rfl (by simp [undef]) rfl ?_)
              first
                | (refine op_want rfl rfl ?_
                   first | refine op_v (v_pickt rfl rfl) rfl ?_ | refine op_v (v_pickf rfl rfl) rfl ?_ | refine op_v (v_pickb rfl rfl rfl) rfl ?_)
                | (refine op_skip rfl rfl (by simp [undef]) rfl ?_)
              first | refine op_v (v_pickt rfl rfl) rfl ?_ | refine op_v (v_pickf rfl rfl) rfl ?_ | refine op_v (v_pickb rfl rfl rfl) rfl ?_
              refine ops_nil ?_
              refine post_next ?_
              refine code_cond_f rfl ?_
              refine code_skip ?_
              refine post_next ?_
              refine code_seq_meet (fun σ' I' δ' => σ' = [(0, vg), (1, .slice ad c.length c0), (5, .bool (someG gs c (k + 1))), (6, .int .i64 k), (7, .bool true), (9, .bool true)] ∧ I0.le I' ∧ δ' = []) ?_ ?_
              · refine code_region ?_
                by_cases hS : someG gs c k = true
                · rw [hS]
                  refine op_v (v_move rfl) rfl ?_
                  refine op_v (v_move rfl) rfl ?_
                  first
                    | (refine op_want rfl rfl ?_
                       refine op_v (v_move rfl) rfl ?_)
                    | (refine op_skip rfl rfl (by simp [undef]) rfl ?_)
                  first | refine op_v (v_pickt rfl rfl) rfl ?_ | refine op_v (v_pickf rfl rfl) rfl ?_ | refine op_v (v_pickb rfl rfl rfl) rfl ?_
                  refine op_v (v_assign rfl) rfl ?_
                  refine ops_nil ?_
                  exact post_meet _ ⟨rfl, Imm.leA, rfl⟩ ⟨rfl, rfl, by rw [hsu]; first | rfl | (rw [hS]; rfl), rfl, rfl, rfl, trivial⟩
                · have hS' : someG gs c k = false := by simpa using hS
                  rw [hS']
                  refine op_v (v_move rfl) rfl ?_
                  refine op_v (v_move rfl) rfl ?_
                  first
                    | (refine op_want rfl rfl ?_
                       refine op_v (v_move rfl) rfl ?_)
                    | (refine op_skip rfl rfl (by simp [undef]) rfl ?_)
                  first | refine op_v (v_pickt rfl rfl) rfl ?_ | refine op_v (v_pickf rfl rfl) rfl ?_ | refine op_v (v_pickb rfl rfl rfl) rfl ?_
                  refine op_v (v_assign rfl) rfl ?_
                  refine ops_nil ?_
                  exact post_meet _ ⟨rfl, Imm.leA, rfl⟩ ⟨rfl, rfl, by rw [hsu]; first | rfl | (rw [hS']; rfl), rfl, rfl, rfl, trivial⟩
              · rintro _ I1 _ ⟨rfl, hI1, rfl⟩
                refine code_seq ?_
                refine code_region ?_
                refine op_v (v_assign rfl) rfl ?_
                refine ops_nil ?_
                refine post_next ?_
                refine code_block ?_
                refine code_loop (fun m σ' I' δ' => ∃ j : Nat, m = c.length - j ∧ j ≤ c.length ∧ σ' = [(0, vg), (1, .slice ad c.length c0), (5, .bool (someG gs c (k + 1))), (6, .int .i64 k), (7, .bool true), (9, .bool true), (11, .int .i64 j)] ∧ I1.le I' ∧ δ' = []) c.length [(0, vg), (1, .slice ad c.length c0), (5, .bool (someG gs c (k + 1))), (6, .int .i64 k), (7, .bool true), (9, .bool true), (11, .int .i64 (0 : Nat))] ⟨0, rfl, Nat.zero_le _, rfl, Imm.le_refl _, rfl⟩ ⟨rfl, rfl, rfl, rfl, rfl, rfl, rfl, trivial⟩ ?_
                rintro m _ I2 _ ⟨j, rfl, hj, rfl, hI2, rfl⟩
                refine code_seq ?_
                refine code_seq ?_
                refine code_region ?_
                refine op_v (v_move rfl) rfl ?_
                refine op_v (v_move rfl) rfl ?_
                refine op_v (v_len Try.underlying26 rfl) rfl ?_
                first | refine op_v (v_cmptA rfl rfl rfl) rfl ?_ | refine op_v (v_cmpfA rfl rfl rfl) rfl ?_ | refine op_v (v_cmp rfl rfl rfl) rfl ?_
                refine ops_nil ?_
                refine post_next ?_
                refine code_cond rfl (fun hc4 => ?_) (fun hc4 => ?_)
                · have hlj : j < c.length := by have h := hc4; simp at h; omega
                  obtain ⟨vj, ⟨ma, mc, na, nc, rfl, hjl, hjr⟩, hatj⟩ := hrow.cellsAt hcells hlj
                  have hs1 := hatj.isSome
                  have hsj := hsm.at hlj
                  refine code_skip ?_
                  refine post_next ?_
                  refine code_seq ?_
                  refine code_block ?_
                  refine code_seq ?_
                  refine code_draw (.fl 0 (.fl 1 (.fl 2 (.fl 3 (.fl 4 (.fl 5 (.fl 6 (.fl 7 (.fl 8 (.ef 9 (.fl 10 (.fl 11 (.fl 12 (.ef 13 (.ef 14 .done))))))))))))))) (fun _ => _) mixed (by kernel_rfl) (by kernel_rfl) (fun _ => (List.Sublist.refl _)) ?_
                  refine e_fl rfl rfl (fun hs_ => PF.mk rfl (v_move rfl) hs_) ?_
                  refine e_fl rfl rfl (fun hs_ => PF.mk rfl (v_move rfl) hs_) ?_
                  refine e_fl rfl rfl (fun hs_ => PF.mk rfl (v_move rfl) hs_) ?_
                  first | refine e_fl rfl rfl (fun hs_ => PF.mk rfl (v_indexA Try.underlying26 sz49 rfl rfl) hs_) ?_ | refine e_fl rfl rfl (fun hs_ => PF.mk rfl (v_indexIA Try.underlying26 sz49 rfl rfl) hs_) ?_
                  first | refine e_fl rfl rfl (fun hs_ => PF.mk rfl (v_loadI0 ty49 (hatj.mono Imm.leA) rfl rfl rfl) hs_) ?_ | refine e_fl rfl rfl (fun hs_ => PF.mk rfl (v_loadI ty49 (hatj.mono Imm.leA) rfl rfl rfl) hs_) ?_
                  refine e_fl rfl rfl (fun hs_ => PF.mk rfl (v_move rfl) hs_) ?_
                  refine e_fl rfl rfl (fun hs_ => PF.mk rfl (v_move rfl) hs_) ?_
                  first | refine e_fl rfl rfl (fun hs_ => PF.mk rfl (v_indexA Try.underlying26 sz49 rfl rfl) hs_) ?_ | refine e_fl rfl rfl (fun hs_ => PF.mk rfl (v_indexIA Try.underlying26 sz49 rfl rfl) hs_) ?_
                  first | refine e_fl rfl rfl (fun hs_ => PF.mk rfl (v_loadI0 ty49 (hatk.mono Imm.leA) rfl rfl rfl) hs_) ?_ | refine e_fl rfl rfl (fun hs_ => PF.mk rfl (v_loadI ty49 (hatk.mono Imm.leA) rfl rfl rfl) hs_) ?_
                  refine e_eff rfl (by intro cs b hc; cases hc) (by intro c hc; cases hc) ?_
                  refine op_call pl49 rfl rfl ((LCompare_does (x := c[j]) (y := c[k]) (hg.mono Imm.leA) ⟨ma, mc, na, nc, rfl, hjl.mono Imm.leA, hjr.mono Imm.leA⟩ ⟨la, lc, ra, rc, rfl, hkl.mono Imm.leA, hkr.mono Imm.leA⟩ hsj.1 hsj.2 hsk.1 hsk.2)) Parts.none ?_
                  rintro v84 I84 _ hI84 ⟨rfl, rfl⟩
                  rw [chkC_litE hchk (List.getElem_mem hlj) (List.getElem_mem hlt), if_pos rfl]
                  refine ops_nil ?_
                  refine e_next rfl side_allA ?_
                  refine e_fl rfl rfl (fun hs_ => PF.mk rfl (v_move rfl) hs_) ?_
                  refine e_fl rfl rfl (fun hs_ => PF.mk rfl (v_extract rfl rfl) hs_) ?_
                  refine e_fl rfl rfl (fun hs_ => PF.mk rfl (v_extract rfl rfl) hs_) ?_
                  refine e_eff rfl (by intro cs b hc; cases hc) (by intro c hc; cases hc) ?_
                  refine op_v (v_assign rfl) rfl ?_
                  refine ops_nil ?_
                  refine e_next rfl side_allA ?_
                  refine e_eff rfl (by intro cs b hc; cases hc) (by intro c hc; cases hc) ?_
                  refine op_v (v_assign rfl) rfl ?_
                  refine ops_nil ?_
                  refine e_next rfl (side_nil (by kernel_rfl)) ?_
                  refine e_done ?_
                  refine post_next ?_
                  refine code_seq ?_
                  refine code_region ?_
                  refine op_v (v_move rfl) rfl ?_
                  first | refine op_v (v_cmptA rfl rfl rfl) rfl ?_ | refine op_v (v_cmpfA rfl rfl rfl) rfl ?_ | refine op_v (v_cmp rfl rfl rfl) rfl ?_
                  refine op_v (v_move rfl) rfl ?_
                  first
                    | (refine op_want rfl rfl ?_
                       refine op_v (v_move rfl) rfl ?_)
                    | (refine op_skip rfl rfl (by simp [undef]) rfl ?_)
                  first
                    | (refine op_want rfl rfl ?_
                       refine op_v (v_move rfl) rfl ?_)
                    | (refine op_skip rfl rfl (by simp [undef]) rfl ?_)
                  first
                    | (refine op_want rfl rfl ?_
                       refine op_v (v_move rfl) rfl ?_)
                    | (refine op_skip rfl rfl (by simp [undef]) rfl ?_)
                  first
                    | (refine op_want rfl rfl ?_
                       refine op_v (v_cmpf rfl rfl rfl (top_more hlt hlj hA)) rfl ?_)
                    | (refine op_skip rfl rfl (by simp [undef]) rfl ?_)
                  first
                    | (refine op_want rfl rfl ?_
                       first | refine op_v (v_pickt rfl rfl) rfl ?_ | refine op_v (v_pickf rfl rfl) rfl ?_ | refine op_v (v_pickb rfl rfl rfl) rfl ?_)
                    | (refine op_skip rfl rfl (by simp [undef]) rfl ?_)
                  first | refine op_v (v_pickt rfl rfl) rfl ?_ | refine op_v (v_pickf rfl rfl) rfl ?_ | refine op_v (v_pickb rfl rfl rfl) rfl ?_
                  refine op_v (v_move rfl) rfl ?_
                  first
                    | (refine op_want rfl rfl ?_
                       refine op_v (v_move rfl) rfl ?_)
                    | (refine op_skip rfl rfl (by simp [undef]) rfl ?_)
                  first
                    | (refine op_want rfl rfl ?_
                       refine op_v (v_move rfl) rfl ?_)
                    | (refine op_skip rfl rfl (by simp [undef]) rfl ?_)
                  first
                    | (refine op_want rfl rfl ?_
                       refine op_v (v_move rfl) rfl ?_)
                    | (refine op_skip rfl rfl (by simp [undef]) rfl ?_)
                  first
                    | (refine op_want rfl rfl ?_
                       refine op_v (v_move rfl) rfl ?_)
                    | (refine op_skip rfl rfl (by simp [undef]) rfl ?_)
                  by_cases hjk : j ≠ k
                  · first
                      | (refine op_want rfl rfl ?_
                         first | refine op_v (v_cmptA rfl rfl rfl) rfl ?_ | refine op_v (v_cmpfA rfl rfl rfl) rfl ?_ | refine op_v (v_cmp rfl rfl rfl) rfl ?_)
                      | (refine op_skip rfl rfl (by simp [undef]) rfl ?_)
                    first
                      | (refine op_want rfl rfl ?_
                         first | refine op_v (v_pickt rfl rfl) rfl ?_ | refine op_v (v_pickf rfl rfl) rfl ?_ | refine op_v (v_pickb rfl rfl rfl) rfl ?_)
                      | (refine op_skip rfl rfl (by simp [undef]) rfl ?_)
                    first
                      | (refine op_want rfl rfl ?_
                         refine op_v (v_move rfl) rfl ?_)
                      | (refine op_skip rfl rfl (by simp [undef]) rfl ?_)
                    first
                      | (refine op_want rfl rfl ?_
                         refine op_v (v_move rfl) rfl ?_)
                      | (refine op_skip rfl rfl (by simp [undef]) rfl ?_)
                    first
                      | (refine op_want rfl rfl ?_
                         refine op_v (v_cmpf rfl rfl rfl (top_even hlt hlj hB hjk)) rfl ?_)
                      | (refine op_skip rfl rfl (by simp [undef]) rfl ?_)
                    first
                      | (refine op_want rfl rfl ?_
                         first | refine op_v (v_pickt rfl rfl) rfl ?_ | refine op_v (v_pickf rfl rfl) rfl ?_ | refine op_v (v_pickb rfl rfl rfl) rfl ?_)
                      | (refine op_skip rfl rfl (by simp [undef]) rfl ?_)
                    first | refine op_v (v_pickt rfl rfl) rfl ?_ | refine op_v (v_pickf rfl rfl) rfl ?_ | refine op_v (v_pickb rfl rfl rfl) rfl ?_
                    refine ops_nil ?_
                    refine post_next ?_
                    refine code_cond_f rfl ?_
                    refine code_skip ?_
                    refine post_out ?_
                    refine post_next ?_
                    refine code_region ?_
                    refine op_v (v_move rfl) rfl ?_
                    first | refine op_v (v_addb rfl rfl rfl (by omega)) rfl ?_ | refine op_v (v_add rfl rfl) rfl ?_
                    refine op_v (v_assign rfl) rfl ?_
                    refine ops_nil ?_
                    refine post_again (c.length - (j + 1)) [(0, vg), (1, .slice ad c.length c0), (5, .bool (someG gs c (k + 1))), (6, .int .i64 k), (7, .bool true), (9, .bool true), (11, .int .i64 (j + 1 : Nat))] (by omega) ⟨j + 1, rfl, hlj, rfl, Imm.leA, rfl⟩ ⟨rfl, rfl, rfl, rfl, rfl, rfl, rfl, trivial⟩
                  · first
                      | (refine op_want rfl rfl ?_
                         first | refine op_v (v_cmptA rfl rfl rfl) rfl ?_ | refine op_v (v_cmpfA rfl rfl rfl) rfl ?_ | refine op_v (v_cmp rfl rfl rfl) rfl ?_)
                      | (refine op_skip rfl rfl (by simp [undef]) rfl ?_)
                    first
                      | (refine op_want rfl rfl ?_
                         first | refine op_v (v_pickt rfl rfl) rfl ?_ | refine op_v (v_pickf rfl rfl) rfl ?_ | refine op_v (v_pickb rfl rfl rfl) rfl ?_)
                      | (refine op_skip rfl rfl (by simp [undef]) rfl ?_)
                    first
                      | (refine op_want rfl rfl ?_
                         refine op_v (v_move rfl) rfl ?_)
                      | (refine op_skip rfl rfl (by simp [undef]) rfl ?_)
                    first
                      | (refine op_want rfl rfl ?_
                         refine op_v (v_move rfl) rfl ?_)
                      | (refine op_skip rfl rfl (by simp [undef]) rfl ?_)
                    first
                      | (refine op_want rfl rfl ?_
                         refine op_v (v_cmpf rfl rfl rfl (top_even hlt hlj hB hjk)) rfl ?_)
                      | (refine op_skip rfl rfl (by simp [undef]) rfl ?_)
                    first
                      | (refine op_want rfl rfl ?_
                         first | refine op_v (v_pickt rfl rfl) rfl ?_ | refine op_v (v_pickf rfl rfl) rfl ?_ | refine op_v (v_pickb rfl rfl rfl) rfl ?_)
                      | (refine op_skip rfl rfl (by simp [undef]) rfl ?_)
                    first | refine op_v (v_pickt rfl rfl) rfl ?_ | refine op_v (v_pickf rfl rfl) rfl ?_ | refine op_v (v_pickb rfl rfl rfl) rfl ?_
                    refine ops_nil ?_
                    refine post_next ?_
                    refine code_cond_f rfl ?_
                    refine code_skip ?_
                    refine post_out ?_
                    refine post_next ?_
                    refine code_region ?_
                    refine op_v (v_move rfl) rfl ?_
                    first | refine op_v (v_addb rfl rfl rfl (by omega)) rfl ?_ | refine op_v (v_add rfl rfl) rfl ?_
                    refine op_v (v_assign rfl) rfl ?_
                    refine ops_nil ?_
                    refine post_again (c.length - (j + 1)) [(0, vg), (1, .slice ad c.length c0), (5, .bool (someG gs c (k + 1))), (6, .int .i64 k), (7, .bool true), (9, .bool true), (11, .int .i64 (j + 1 : Nat))] (by omega) ⟨j + 1, rfl, hlj, rfl, Imm.leA, rfl⟩ ⟨rfl, rfl, rfl, rfl, rfl, rfl, rfl, trivial⟩
                · refine code_exit ?_
                  refine post_exit_then ?_
                  refine post_exit_then ?_
                  refine post_exit ?_
                  refine post_out ?_
                  refine post_next ?_
                  refine code_region ?_
                  refine op_v (v_move rfl) rfl ?_
                  first | refine op_v (v_addb rfl rfl rfl (by omega)) rfl ?_ | refine op_v (v_add rfl rfl) rfl ?_
                  refine op_v (v_assign rfl) rfl ?_
                  refine ops_nil ?_
                  refine post_again (c.length - (k + 1)) [(0, vg), (1, .slice ad c.length c0), (5, .bool (someG gs c (k + 1))), (6, .int .i64 (k + 1 : Nat))] (by omega) ⟨k + 1, rfl, hlt, rfl, Imm.leA, rfl⟩ ⟨rfl, rfl, rfl, rfl, trivial⟩
            · have hB' : topG gs c k true = false := by simpa using hB
              rw [hB']
              refine op_v (v_extract rfl rfl) rfl ?_
              refine op_v (v_extract rfl rfl) rfl ?_
              refine op_v (v_assign rfl) rfl ?_
              refine op_v (v_assign rfl) rfl ?_
              refine ops_nil ?_
              refine post_next ?_
              refine code_seq ?_
              refine code_seq ?_
              refine code_region ?_
              refine op_v (v_move rfl) rfl ?_
              first | refine op_v (v_cmptA rfl rfl rfl) rfl ?_ | refine op_v (v_cmpfA rfl rfl rfl) rfl ?_ | refine op_v (v_cmp rfl rfl rfl) rfl ?_
              refine op_v (v_move rfl) rfl ?_
              first
                | (refine op_want rfl rfl ?_
                   refine op_v (v_move rfl) rfl ?_)
                | (refine op_skip rfl rfl (by simp [undef]) rfl ?_)
              first
                | (refine op_want rfl rfl ?_
                   first | refine op_v (v_cmptA rfl rfl rfl) rfl ?_ | refine op_v (v_cmpfA rfl rfl rfl) rfl ?_ | refine op_v (v_cmp rfl rfl rfl) rfl ?_)
                | (refine op_skip rfl rfl (by simp [undef]) rfl ?_)
              first | refine op_v (v_pickt rfl rfl) rfl ?_ | refine op_v (v_pickf rfl rfl) rfl ?_ | refine op_v (v_pickb rfl rfl rfl) rfl ?_
              refine op_v (v_move rfl) rfl ?_
              first
                | (refine op_want rfl rfl ?_
                   refine op_v (v_move rfl) rfl ?_)
                | (refine op_skip rfl rfl (by simp [undef]) rfl ?_)
              first
                | (refine op_want rfl rfl ?_
                   refine op_v (v_move rfl) rfl ?_)
                | (refine op_skip rfl rfl (by simp [undef]) rfl ?_)
              first
                | (refine op_want rfl rfl ?_
                   refine op_v (v_move rfl) rfl ?_)
                | (refine op_skip rfl rfl (by simp [undef]) rfl ?_)
              first
                | (refine op_want rfl rfl ?_
                   refine op_v (v_not rfl) rfl ?_)
                | (refine op_skip rfl rfl (by simp [undef]) rfl ?_)
              first
                | (refine op_want rfl rfl ?_
                   first | refine op_v (v_pickt rfl rfl) rfl ?_ | refine op_v (v_pickf rfl rfl) rfl ?_ | refine op_v (v_pickb rfl rfl rfl) rfl ?_)
                | (refine op_skip rfl rfl (by simp [undef]) rfl ?_)
              first | refine op_v (v_pickt rfl rfl) rfl ?_ | refine op_v (v_pickf rfl rfl) rfl ?_ | refine op_v (v_pickb rfl rfl rfl) rfl ?_
              refine ops_nil ?_
              refine post_next ?_
              refine code_cond_f rfl ?_
              refine code_skip ?_
              refine post_next ?_
              refine code_seq_meet (fun σ' I' δ' => σ' = [(0, vg), (1, .slice ad c.length c0), (5, .bool (someG gs c (k + 1))), (6, .int .i64 k), (7, .bool true), (9, .bool false)] ∧ I0.le I' ∧ δ' = []) ?_ ?_
              · refine code_region ?_
                by_cases hS : someG gs c k = true
                · rw [hS]
                  refine op_v (v_move rfl) rfl ?_
                  refine op_v (v_move rfl) rfl ?_
                  first
                    | (refine op_want rfl rfl ?_
                       refine op_v (v_move rfl) rfl ?_)
                    | (refine op_skip rfl rfl (by simp [undef]) rfl ?_)
                  first | refine op_v (v_pickt rfl rfl) rfl ?_ | refine op_v (v_pickf rfl rfl) rfl ?_ | refine op_v (v_pickb rfl rfl rfl) rfl ?_
                  refine op_v (v_assign rfl) rfl ?_
                  refine ops_nil ?_
                  exact post_meet _ ⟨rfl, Imm.leA, rfl⟩ ⟨rfl, rfl, by rw [hsu]; first | rfl | (rw [hS]; rfl), rfl, rfl, rfl, trivial⟩
                · have hS' : someG gs c k = false := by simpa using hS
                  rw [hS']
                  refine op_v (v_move rfl) rfl ?_
                  refine op_v (v_move rfl) rfl ?_
                  first
                    | (refine op_want rfl rfl ?_
                       refine op_v (v_move rfl) rfl ?_)
                    | (refine op_skip rfl rfl (by simp [undef]) rfl ?_)
                  first | refine op_v (v_pickt rfl rfl) rfl ?_ | refine op_v (v_pickf rfl rfl) rfl ?_ | refine op_v (v_pickb rfl rfl rfl) rfl ?_
                  refine op_v (v_assign rfl) rfl ?_
                  refine ops_nil ?_
                  exact post_meet _ ⟨rfl, Imm.leA, rfl⟩ ⟨rfl, rfl, by rw [hsu]; first | rfl | (rw [hS']; rfl), rfl, rfl, rfl, trivial⟩
              · rintro _ I1 _ ⟨rfl, hI1, rfl⟩
                refine code_seq ?_
                refine code_region ?_
                refine op_v (v_assign rfl) rfl ?_
                refine ops_nil ?_
                refine post_next ?_
                refine code_block ?_
                refine code_loop (fun m σ' I' δ' => ∃ j : Nat, m = c.length - j ∧ j ≤ c.length ∧ σ' = [(0, vg), (1, .slice ad c.length c0), (5, .bool (someG gs c (k + 1))), (6, .int .i64 k), (7, .bool true), (9, .bool false), (11, .int .i64 j)] ∧ I1.le I' ∧ δ' = []) c.length [(0, vg), (1, .slice ad c.length c0), (5, .bool (someG gs c (k + 1))), (6, .int .i64 k), (7, .bool true), (9, .bool false), (11, .int .i64 (0 : Nat))] ⟨0, rfl, Nat.zero_le _, rfl, Imm.le_refl _, rfl⟩ ⟨rfl, rfl, rfl, rfl, rfl, rfl, rfl, trivial⟩ ?_
                rintro m _ I2 _ ⟨j, rfl, hj, rfl, hI2, rfl⟩
                refine code_seq ?_
                refine code_seq ?_
                refine code_region ?_
                refine op_v (v_move rfl) rfl ?_
                refine op_v (v_move rfl) rfl ?_
                refine op_v (v_len Try.underlying26 rfl) rfl ?_
                first | refine op_v (v_cmptA rfl rfl rfl) rfl ?_ | refine op_v (v_cmpfA rfl rfl rfl) rfl ?_ | refine op_v (v_cmp rfl rfl rfl) rfl ?_
                refine ops_nil ?_
                refine post_next ?_
                refine code_cond rfl (fun hc4 => ?_) (fun hc4 => ?_)
                · have hlj : j < c.length := by have h := hc4; simp at h; omega
                  obtain ⟨vj, ⟨ma, mc, na, nc, rfl, hjl, hjr⟩, hatj⟩ := hrow.cellsAt hcells hlj
                  have hs1 := hatj.isSome
                  have hsj := hsm.at hlj
                  refine code_skip ?_
                  refine post_next ?_
                  refine code_seq ?_
                  refine code_block ?_
                  refine code_seq ?_
                  refine code_draw (.fl 0 (.fl 1 (.fl 2 (.fl 3 (.fl 4 (.fl 5 (.fl 6 (.fl 7 (.fl 8 (.ef 9 (.fl 10 (.fl 11 (.fl 12 (.ef 13 (.ef 14 .done))))))))))))))) (fun _ => _) mixed (by kernel_rfl) (by kernel_rfl) (fun _ => (List.Sublist.refl _)) ?_
                  refine e_fl rfl rfl (fun hs_ => PF.mk rfl (v_move rfl) hs_) ?_
                  refine e_fl rfl rfl (fun hs_ => PF.mk rfl (v_move rfl) hs_) ?_
                  refine e_fl rfl rfl (fun hs_ => PF.mk rfl (v_move rfl) hs_) ?_
                  first | refine e_fl rfl rfl (fun hs_ => PF.mk rfl (v_indexA Try.underlying26 sz49 rfl rfl) hs_) ?_ | refine e_fl rfl rfl (fun hs_ => PF.mk rfl (v_indexIA Try.underlying26 sz49 rfl rfl) hs_) ?_
                  first | refine e_fl rfl rfl (fun hs_ => PF.mk rfl (v_loadI0 ty49 (hatj.mono Imm.leA) rfl rfl rfl) hs_) ?_ | refine e_fl rfl rfl (fun hs_ => PF.mk rfl (v_loadI ty49 (hatj.mono Imm.leA) rfl rfl rfl) hs_) ?_
                  refine e_fl rfl rfl (fun hs_ => PF.mk rfl (v_move rfl) hs_) ?_
                  refine e_fl rfl rfl (fun hs_ => PF.mk rfl (v_move rfl) hs_) ?_
                  first | refine e_fl rfl rfl (fun hs_ => PF.mk rfl (v_indexA Try.underlying26 sz49 rfl rfl) hs_) ?_ | refine e_fl rfl rfl (fun hs_ => PF.mk rfl (v_indexIA Try.underlying26 sz49 rfl rfl) hs_) ?_
                  first | refine e_fl rfl rfl (fun hs_ => PF.mk rfl (v_loadI0 ty49 (hatk.mono Imm.leA) rfl rfl rfl) hs_) ?_ | refine e_fl rfl rfl (fun hs_ => PF.mk rfl (v_loadI ty49 (hatk.mono Imm.leA) rfl rfl rfl) hs_) ?_
                  refine e_eff rfl (by intro cs b hc; cases hc) (by intro c hc; cases hc) ?_
                  refine op_call pl49 rfl rfl ((LCompare_does (x := c[j]) (y := c[k]) (hg.mono Imm.leA) ⟨ma, mc, na, nc, rfl, hjl.mono Imm.leA, hjr.mono Imm.leA⟩ ⟨la, lc, ra, rc, rfl, hkl.mono Imm.leA, hkr.mono Imm.leA⟩ hsj.1 hsj.2 hsk.1 hsk.2)) Parts.none ?_
                  rintro v84 I84 _ hI84 ⟨rfl, rfl⟩
                  rw [chkC_litE hchk (List.getElem_mem hlj) (List.getElem_mem hlt), if_pos rfl]
                  refine ops_nil ?_
                  refine e_next rfl side_allA ?_
                  refine e_fl rfl rfl (fun hs_ => PF.mk rfl (v_move rfl) hs_) ?_
                  refine e_fl rfl rfl (fun hs_ => PF.mk rfl (v_extract rfl rfl) hs_) ?_
                  refine e_fl rfl rfl (fun hs_ => PF.mk rfl (v_extract rfl rfl) hs_) ?_
                  refine e_eff rfl (by intro cs b hc; cases hc) (by intro c hc; cases hc) ?_
                  refine op_v (v_assign rfl) rfl ?_
                  refine ops_nil ?_
                  refine e_next rfl side_allA ?_
                  refine e_eff rfl (by intro cs b hc; cases hc) (by intro c hc; cases hc) ?_
                  refine op_v (v_assign rfl) rfl ?_
                  refine ops_nil ?_
                  refine e_next rfl (side_nil (by kernel_rfl)) ?_
                  refine e_done ?_
                  refine post_next ?_
                  refine code_seq ?_
                  refine code_region ?_
                  refine op_v (v_move rfl) rfl ?_
                  first | refine op_v (v_cmptA rfl rfl rfl) rfl ?_ | refine op_v (v_cmpfA rfl rfl rfl) rfl ?_ | refine op_v (v_cmp rfl rfl rfl) rfl ?_
                  refine op_v (v_move rfl) rfl ?_
                  first
                    | (refine op_want rfl rfl ?_
                       refine op_v (v_move rfl) rfl ?_)
                    | (refine op_skip rfl rfl (by simp [undef]) rfl ?_)
                  first
                    | (refine op_want rfl rfl ?_
                       refine op_v (v_move rfl) rfl ?_)
                    | (refine op_skip rfl rfl (by simp [undef]) rfl ?_)
                  first
                    | (refine op_want rfl rfl ?_
                       refine op_v (v_move rfl) rfl ?_)
                    | (refine op_skip rfl rfl (by simp [undef]) rfl ?_)
                  first
                    | (refine op_want rfl rfl ?_
                       refine op_v (v_cmpf rfl rfl rfl (top_more hlt hlj hA)) rfl ?_)
                    | (refine op_skip rfl rfl (by simp [undef]) rfl ?_)
                  first
                    | (refine op_want rfl rfl ?_
                       first | refine op_v (v_pickt rfl rfl) rfl ?_ | refine op_v (v_pickf rfl rfl) rfl ?_ | refine op_v (v_pickb rfl rfl rfl) rfl ?_)
                    | (refine op_skip rfl rfl (by simp [undef]) rfl ?_)
                  first | refine op_v (v_pickt rfl rfl) rfl ?_ | refine op_v (v_pickf rfl rfl) rfl ?_ | refine op_v (v_pickb rfl rfl rfl) rfl ?_
                  refine op_v (v_move rfl) rfl ?_
                  first
                    | (refine op_want rfl rfl ?_
                       refine op_v (v_move rfl) rfl ?_)
                    | (refine op_skip rfl rfl (by simp [undef]) rfl ?_)
                  first
                    | (refine op_want rfl rfl ?_
                       refine op_v (v_move rfl) rfl ?_)
                    | (refine op_skip rfl rfl (by simp [undef]) rfl ?_)
                  first
                    | (refine op_want rfl rfl ?_
                       refine op_v (v_move rfl) rfl ?_)
                    | (refine op_skip rfl rfl (by simp [undef]) rfl ?_)
                  first
                    | (refine op_want rfl rfl ?_
                       refine op_v (v_move rfl) rfl ?_)
                    | (refine op_skip rfl rfl (by simp [undef]) rfl ?_)
                  first
                    | (refine op_want rfl rfl ?_
                       first | refine op_v (v_cmptA rfl rfl rfl) rfl ?_ | refine op_v (v_cmpfA rfl rfl rfl) rfl ?_ | refine op_v (v_cmp rfl rfl rfl) rfl ?_)
                    | (refine op_skip rfl rfl (by simp [undef]) rfl ?_)
                  first
                    | (refine op_want rfl rfl ?_
                       first | refine op_v (v_pickt rfl rfl) rfl ?_ | refine op_v (v_pickf rfl rfl) rfl ?_ | refine op_v (v_pickb rfl rfl rfl) rfl ?_)
                    | (refine op_skip rfl rfl (by simp [undef]) rfl ?_)
                  first
                    | (refine op_want rfl rfl ?_
                       refine op_v (v_move rfl) rfl ?_)
                    | (refine op_skip rfl rfl (by simp [undef]) rfl ?_)
                  first
                    | (refine op_want rfl rfl ?_
                       refine op_v (v_move rfl) rfl ?_)
                    | (refine op_skip rfl rfl (by simp [undef]) rfl ?_)
                  first
                    | (refine op_want rfl rfl ?_
                       refine op_v (v_cmpf rfl rfl rfl (top_even hlt hlj hB hjk)) rfl ?_)
                    | (refine op_skip rfl rfl (by simp [undef]) rfl ?_)
                  first
                    | (refine op_want rfl rfl ?_
                       first | refine op_v (v_pickt rfl rfl) rfl ?_ | refine op_v (v_pickf rfl rfl) rfl ?_ | refine op_v (v_pickb rfl rfl rfl) rfl ?_)
                    | (refine op_skip rfl rfl (by simp [undef]) rfl ?_)
                  first | refine op_v (v_pickt rfl rfl) rfl ?_ | refine op_v (v_pickf rfl rfl) rfl ?_ | refine op_v (v_pickb rfl rfl rfl) rfl ?_
                  refine ops_nil ?_
                  refine post_next ?_
                  refine code_cond_f rfl ?_
                  refine code_skip ?_
                  refine post_out ?_
                  refine post_next ?_
                  refine code_region ?_
                  refine op_v (v_move rfl) rfl ?_
                  first | refine op_v (v_addb rfl rfl rfl (by omega)) rfl ?_ | refine op_v (v_add rfl rfl) rfl ?_
                  refine op_v (v_assign rfl) rfl ?_
                  refine ops_nil ?_
                  refine post_again (c.length - (j + 1)) [(0, vg), (1, .slice ad c.length c0), (5, .bool (someG gs c (k + 1))), (6, .int .i64 k), (7, .bool true), (9, .bool false), (11, .int .i64 (j + 1 : Nat))] (by omega) ⟨j + 1, rfl, hlj, rfl, Imm.leA, rfl⟩ ⟨rfl, rfl, rfl, rfl, rfl, rfl, rfl, trivial⟩
                · refine code_exit ?_
                  refine post_exit_then ?_
                  refine post_exit_then ?_
                  refine post_exit ?_
                  refine post_out ?_
                  refine post_next ?_
                  refine code_region ?_
                  refine op_v (v_move rfl) rfl ?_
                  first | refine op_v (v_addb rfl rfl rfl (by omega)) rfl ?_ | refine op_v (v_add rfl rfl) rfl ?_
                  refine op_v (v_assign rfl) rfl ?_
                  refine ops_nil ?_
                  refine post_again (c.length - (k + 1)) [(0, vg), (1, .slice ad c.length c0), (5, .bool (someG gs c (k + 1))), (6, .int .i64 (k + 1 : Nat))] (by omega) ⟨k + 1, rfl, hlt, rfl, Imm.leA, rfl⟩ ⟨rfl, rfl, rfl, rfl, trivial⟩
          · have hA' : topG gs c k false = false := by simpa using hA
            have hB' : topG gs c k true = false := by cases q : topG gs c k true; rfl; exact absurd (top_strict hlt q) hA
            rw [hA']
            rw [hA', Bool.or_false] at hsu
            refine op_v (v_extract rfl rfl) rfl ?_
            refine op_v (v_extract rfl rfl) rfl ?_
            refine op_v (v_assign rfl) rfl ?_
            refine op_v (v_assign rfl) rfl ?_
            refine ops_nil ?_
            refine post_next ?_
            refine code_seq ?_
            refine code_region ?_
            refine op_v (v_move rfl) rfl ?_
            refine op_v (v_move rfl) rfl ?_
            refine op_v (v_move rfl) rfl ?_
            refine op_call pl48 rfl rfl ((Maximal_does (i := (k : Int)) (s := true) (hg.mono Imm.leA) (hv.mono Imm.leA) hsm)) Parts.none ?_
            rintro v48 I48 _ hI48 ⟨rfl, rfl⟩
            rw [maxE_in hchk hlt, maxB_in _ hchk hlt, hB']
            refine op_v (v_move rfl) rfl ?_
            refine op_v (v_extract rfl rfl) rfl ?_
            refine op_v (v_extract rfl rfl) rfl ?_
            refine op_v (v_assign rfl) rfl ?_
            refine op_v (v_assign rfl) rfl ?_
            refine ops_nil ?_
            refine post_next ?_
            refine code_seq ?_
            refine code_seq ?_
            refine code_region ?_
            refine op_v (v_move rfl) rfl ?_
            first | refine op_v (v_cmptA rfl rfl rfl) rfl ?_ | refine op_v (v_cmpfA rfl rfl rfl) rfl ?_ | refine op_v (v_cmp rfl rfl rfl) rfl ?_
            refine op_v (v_move rfl) rfl ?_
            first
              | (refine op_want rfl rfl ?_
                 refine op_v (v_move rfl) rfl ?_)
              | (refine op_skip rfl rfl (by simp [undef]) rfl ?_)
            first
              | (refine op_want rfl rfl ?_
                 first | refine op_v (v_cmptA rfl rfl rfl) rfl ?_ | refine op_v (v_cmpfA rfl rfl rfl) rfl ?_ | refine op_v (v_cmp rfl rfl rfl) rfl ?_)
              | (refine op_skip rfl rfl (by simp [undef]) rfl ?_)
            first | refine op_v (v_pickt rfl rfl) rfl ?_ | refine op_v (v_pickf rfl rfl) rfl ?_ | refine op_v (v_pickb rfl rfl rfl) rfl ?_
            refine op_v (v_move rfl) rfl ?_
            first
              | (refine op_want rfl rfl ?_
                 refine op_v (v_move rfl) rfl ?_)
              | (refine op_skip rfl rfl (by simp [undef]) rfl ?_)
            first
              | (refine op_want rfl rfl ?_
                 refine op_v (v_move rfl) rfl ?_)
              | (refine op_skip rfl rfl (by simp [undef]) rfl ?_)
            first
              | (refine op_want rfl rfl ?_
                 refine op_v (v_move rfl) rfl ?_)
              | (refine op_skip rfl rfl (by simp [undef]) rfl ?_)
            first
              | (refine op_want rfl rfl ?_
                 refine op_v (v_not rfl) rfl ?_)
              | (refine op_skip rfl rfl (by simp [undef]) rfl ?_)
            first
              | (refine op_want rfl rfl ?_
                 first | refine op_v (v_pickt rfl rfl) rfl ?_ | refine op_v (v_pickf rfl rfl) rfl ?_ | refine op_v (v_pickb rfl rfl rfl) rfl ?_)
              | (refine op_skip rfl rfl (by simp [undef]) rfl ?_)
            first | refine op_v (v_pickt rfl rfl) rfl ?_ | refine op_v (v_pickf rfl rfl) rfl ?_ | refine op_v (v_pickb rfl rfl rfl) rfl ?_
            refine ops_nil ?_
            refine post_next ?_
            refine code_cond_f rfl ?_
            refine code_skip ?_
            refine post_next ?_
            refine code_seq_meet (fun σ' I' δ' => σ' = [(0, vg), (1, .slice ad c.length c0), (5, .bool (someG gs c (k + 1))), (6, .int .i64 k), (7, .bool false), (9, .bool false)] ∧ I0.le I' ∧ δ' = []) ?_ ?_
            · refine code_region ?_
              by_cases hS : someG gs c k = true
              · rw [hS]
                refine op_v (v_move rfl) rfl ?_
                refine op_v (v_move rfl) rfl ?_
                first
                  | (refine op_want rfl rfl ?_
                     refine op_v (v_move rfl) rfl ?_)
                  | (refine op_skip rfl rfl (by simp [undef]) rfl ?_)
                first | refine op_v (v_pickt rfl rfl) rfl ?_ | refine op_v (v_pickf rfl rfl) rfl ?_ | refine op_v (v_pickb rfl rfl rfl) rfl ?_
                refine op_v (v_assign rfl) rfl ?_
                refine ops_nil ?_
                exact post_meet _ ⟨rfl, Imm.leA, rfl⟩ ⟨rfl, rfl, by rw [hsu]; first | rfl | (rw [hS]; rfl), rfl, rfl, rfl, trivial⟩
              · have hS' : someG gs c k = false := by simpa using hS
                rw [hS']
                refine op_v (v_move rfl) rfl ?_
                refine op_v (v_move rfl) rfl ?_
                first
                  | (refine op_want rfl rfl ?_
                     refine op_v (v_move rfl) rfl ?_)
                  | (refine op_skip rfl rfl (by simp [undef]) rfl ?_)
                first | refine op_v (v_pickt rfl rfl) rfl ?_ | refine op_v (v_pickf rfl rfl) rfl ?_ | refine op_v (v_pickb rfl rfl rfl) rfl ?_
                refine op_v (v_assign rfl) rfl ?_
                refine ops_nil ?_
                exact post_meet _ ⟨rfl, Imm.leA, rfl⟩ ⟨rfl, rfl, by rw [hsu]; first | rfl | (rw [hS']; rfl), rfl, rfl, rfl, trivial⟩
            · rintro _ I1 _ ⟨rfl, hI1, rfl⟩
              refine code_seq ?_
              refine code_region ?_
              refine op_v (v_assign rfl) rfl ?_
              refine ops_nil ?_
              refine post_next ?_
              refine code_block ?_
              refine code_loop (fun m σ' I' δ' => ∃ j : Nat, m = c.length - j ∧ j ≤ c.length ∧ σ' = [(0, vg), (1, .slice ad c.length c0), (5, .bool (someG gs c (k + 1))), (6, .int .i64 k), (7, .bool false), (9, .bool false), (11, .int .i64 j)] ∧ I1.le I' ∧ δ' = []) c.length [(0, vg), (1, .slice ad c.length c0), (5, .bool (someG gs c (k + 1))), (6, .int .i64 k), (7, .bool false), (9, .bool false), (11, .int .i64 (0 : Nat))] ⟨0, rfl, Nat.zero_le _, rfl, Imm.le_refl _, rfl⟩ ⟨rfl, rfl, rfl, rfl, rfl, rfl, rfl, trivial⟩ ?_
              rintro m _ I2 _ ⟨j, rfl, hj, rfl, hI2, rfl⟩
              refine code_seq ?_
              refine code_seq ?_
              refine code_region ?_
              refine op_v (v_move rfl) rfl ?_
              refine op_v (v_move rfl) rfl ?_
              refine op_v (v_len Try.underlying26 rfl) rfl ?_
              first | refine op_v (v_cmptA rfl rfl rfl) rfl ?_ | refine op_v (v_cmpfA rfl rfl rfl) rfl ?_ | refine op_v (v_cmp rfl rfl rfl) rfl ?_
              refine ops_nil ?_
              refine post_next ?_
              refine code_cond rfl (fun hc4 => ?_) (fun hc4 => ?_)
              · have hlj : j < c.length := by have h := hc4; simp at h; omega
                obtain ⟨vj, ⟨ma, mc, na, nc, rfl, hjl, hjr⟩, hatj⟩ := hrow.cellsAt hcells hlj
                have hs1 := hatj.isSome
                have hsj := hsm.at hlj
                refine code_skip ?_
                refine post_next ?_
                refine code_seq ?_
                refine code_block ?_
                refine code_seq ?_
                refine code_draw (.fl 0 (.fl 1 (.fl 2 (.fl 3 (.fl 4 (.fl 5 (.fl 6 (.fl 7 (.fl 8 (.ef 9 (.fl 10 (.fl 11 (.fl 12 (.ef 13 (.ef 14 .done))))))))))))))) (fun _ => _) mixed (by kernel_rfl) (by kernel_rfl) (fun _ => (List.Sublist.refl _)) ?_
                refine e_fl rfl rfl (fun hs_ => PF.mk rfl (v_move rfl) hs_) ?_
                refine e_fl rfl rfl (fun hs_ => PF.mk rfl (v_move rfl) hs_) ?_
                refine e_fl rfl rfl (fun hs_ => PF.mk rfl (v_move rfl) hs_) ?_
                first | refine e_fl rfl rfl (fun hs_ => PF.mk rfl (v_indexA Try.underlying26 sz49 rfl rfl) hs_) ?_ | refine e_fl rfl rfl (fun hs_ => PF.mk rfl (v_indexIA Try.underlying26 sz49 rfl rfl) hs_) ?_
                first | refine e_fl rfl rfl (fun hs_ => PF.mk rfl (v_loadI0 ty49 (hatj.mono Imm.leA) rfl rfl rfl) hs_) ?_ | refine e_fl rfl rfl (fun hs_ => PF.mk rfl (v_loadI ty49 (hatj.mono Imm.leA) rfl rfl rfl) hs_) ?_
                refine e_fl rfl rfl (fun hs_ => PF.mk rfl (v_move rfl) hs_) ?_
                refine e_fl rfl rfl (fun hs_ => PF.mk rfl (v_move rfl) hs_) ?_
                first | refine e_fl rfl rfl (fun hs_ => PF.mk rfl (v_indexA Try.underlying26 sz49 rfl rfl) hs_) ?_ | refine e_fl rfl rfl (fun hs_ => PF.mk rfl (v_indexIA Try.underlying26 sz49 rfl rfl) hs_) ?_
                first | refine e_fl rfl rfl (fun hs_ => PF.mk rfl (v_loadI0 ty49 (hatk.mono Imm.leA) rfl rfl rfl) hs_) ?_ | refine e_fl rfl rfl (fun hs_ => PF.mk rfl (v_loadI ty49 (hatk.mono Imm.leA) rfl rfl rfl) hs_) ?_
                refine e_eff rfl (by intro cs b hc; cases hc) (by intro c hc; cases hc) ?_
                refine op_call pl49 rfl rfl ((LCompare_does (x := c[j]) (y := c[k]) (hg.mono Imm.leA) ⟨ma, mc, na, nc, rfl, hjl.mono Imm.leA, hjr.mono Imm.leA⟩ ⟨la, lc, ra, rc, rfl, hkl.mono Imm.leA, hkr.mono Imm.leA⟩ hsj.1 hsj.2 hsk.1 hsk.2)) Parts.none ?_
                rintro v84 I84 _ hI84 ⟨rfl, rfl⟩
                rw [chkC_litE hchk (List.getElem_mem hlj) (List.getElem_mem hlt), if_pos rfl]
                refine ops_nil ?_
                refine e_next rfl side_allA ?_
                refine e_fl rfl rfl (fun hs_ => PF.mk rfl (v_move rfl) hs_) ?_
                refine e_fl rfl rfl (fun hs_ => PF.mk rfl (v_extract rfl rfl) hs_) ?_
                refine e_fl rfl rfl (fun hs_ => PF.mk rfl (v_extract rfl rfl) hs_) ?_
                refine e_eff rfl (by intro cs b hc; cases hc) (by intro c hc; cases hc) ?_
                refine op_v (v_assign rfl) rfl ?_
                refine ops_nil ?_
                refine e_next rfl side_allA ?_
                refine e_eff rfl (by intro cs b hc; cases hc) (by intro c hc; cases hc) ?_
                refine op_v (v_assign rfl) rfl ?_
                refine ops_nil ?_
                refine e_next rfl (side_nil (by kernel_rfl)) ?_
                refine e_done ?_
                refine post_next ?_
                refine code_seq ?_
                refine code_region ?_
                refine op_v (v_move rfl) rfl ?_
                first | refine op_v (v_cmptA rfl rfl rfl) rfl ?_ | refine op_v (v_cmpfA rfl rfl rfl) rfl ?_ | refine op_v (v_cmp rfl rfl rfl) rfl ?_
                refine op_v (v_move rfl) rfl ?_
                first
                  | (refine op_want rfl rfl ?_
                     refine op_v (v_move rfl) rfl ?_)
                  | (refine op_skip rfl rfl (by simp [undef]) rfl ?_)
                first
                  | (refine op_want rfl rfl ?_
                     refine op_v (v_move rfl) rfl ?_)
                  | (refine op_skip rfl rfl (by simp [undef]) rfl ?_)
                first
                  | (refine op_want rfl rfl ?_
                     refine op_v (v_move rfl) rfl ?_)
                  | (refine op_skip rfl rfl (by simp [undef]) rfl ?_)
                first
                  | (refine op_want rfl rfl ?_
                     refine op_v (v_cmpf rfl rfl rfl (top_more hlt hlj hA)) rfl ?_)
                  | (refine op_skip rfl rfl (by simp [undef]) rfl ?_)
                first
                  | (refine op_want rfl rfl ?_
                     first | refine op_v (v_pickt rfl rfl) rfl ?_ | refine op_v (v_pickf rfl rfl) rfl ?_ | refine op_v (v_pickb rfl rfl rfl) rfl ?_)
                  | (refine op_skip rfl rfl (by simp [undef]) rfl ?_)
                first | refine op_v (v_pickt rfl rfl) rfl ?_ | refine op_v (v_pickf rfl rfl) rfl ?_ | refine op_v (v_pickb rfl rfl rfl) rfl ?_
                refine op_v (v_move rfl) rfl ?_
                first
                  | (refine op_want rfl rfl ?_
                     refine op_v (v_move rfl) rfl ?_)
                  | (refine op_skip rfl rfl (by simp [undef]) rfl ?_)
                first
                  | (refine op_want rfl rfl ?_
                     refine op_v (v_move rfl) rfl ?_)
                  | (refine op_skip rfl rfl (by simp [undef]) rfl ?_)
                first
                  | (refine op_want rfl rfl ?_
                     refine op_v (v_move rfl) rfl ?_)
                  | (refine op_skip rfl rfl (by simp [undef]) rfl ?_)
                first
                  | (refine op_want rfl rfl ?_
                     refine op_v (v_move rfl) rfl ?_)
                  | (refine op_skip rfl rfl (by simp [undef]) rfl ?_)
                first
                  | (refine op_want rfl rfl ?_
                     first | refine op_v (v_cmptA rfl rfl rfl) rfl ?_ | refine op_v (v_cmpfA rfl rfl rfl) rfl ?_ | refine op_v (v_cmp rfl rfl rfl) rfl ?_)
                  | (refine op_skip rfl rfl (by simp [undef]) rfl ?_)
                first
                  | (refine op_want rfl rfl ?_
                     first | refine op_v (v_pickt rfl rfl) rfl ?_ | refine op_v (v_pickf rfl rfl) rfl ?_ | refine op_v (v_pickb rfl rfl rfl) rfl ?_)
                  | (refine op_skip rfl rfl (by simp [undef]) rfl ?_)
                first
                  | (refine op_want rfl rfl ?_
                     refine op_v (v_move rfl) rfl ?_)
                  | (refine op_skip rfl rfl (by simp [undef]) rfl ?_)
                first
                  | (refine op_want rfl rfl ?_
                     refine op_v (v_move rfl) rfl ?_)
                  | (refine op_skip rfl rfl (by simp [undef]) rfl ?_)
                first
                  | (refine op_want rfl rfl ?_
                     refine op_v (v_cmpf rfl rfl rfl (top_even hlt hlj hB hjk)) rfl ?_)
                  | (refine op_skip rfl rfl (by simp [undef]) rfl ?_)
                first
                  | (refine op_want rfl rfl ?_
                     first | refine op_v (v_pickt rfl rfl) rfl ?_ | refine op_v (v_pickf rfl rfl) rfl ?_ | refine op_v (v_pickb rfl rfl rfl) rfl ?_)
                  | (refine op_skip rfl rfl (by simp [undef]) rfl ?_)
                first | refine op_v (v_pickt rfl rfl) rfl ?_ | refine op_v (v_pickf rfl rfl) rfl ?_ | refine op_v (v_pickb rfl rfl rfl) rfl ?_
                refine ops_nil ?_
                refine post_next ?_
                refine code_cond_f rfl ?_
                refine code_skip ?_
                refine post_out ?_
                refine post_next ?_
                refine code_region ?_
                refine op_v (v_move rfl) rfl ?_
                first | refine op_v (v_addb rfl rfl rfl (by omega)) rfl ?_ | refine op_v (v_add rfl rfl) rfl ?_
                refine op_v (v_assign rfl) rfl ?_
                refine ops_nil ?_
                refine post_again (c.length - (j + 1)) [(0, vg), (1, .slice ad c.length c0), (5, .bool (someG gs c (k + 1))), (6, .int .i64 k), (7, .bool false), (9, .bool false), (11, .int .i64 (j + 1 : Nat))] (by omega) ⟨j + 1, rfl, hlj, rfl, Imm.leA, rfl⟩ ⟨rfl, rfl, rfl, rfl, rfl, rfl, rfl, trivial⟩
              · refine code_exit ?_
                refine post_exit_then ?_
                refine post_exit_then ?_
                refine post_exit ?_
                refine post_out ?_
                refine post_next ?_
                refine code_region ?_
                refine op_v (v_move rfl) rfl ?_
                first | refine op_v (v_addb rfl rfl rfl (by omega)) rfl ?_ | refine op_v (v_add rfl rfl) rfl ?_
                refine op_v (v_assign rfl) rfl ?_
                refine ops_nil ?_
                refine post_again (c.length - (k + 1)) [(0, vg), (1, .slice ad c.length c0), (5, .bool (someG gs c (k + 1))), (6, .int .i64 (k + 1 : Nat))] (by omega) ⟨k + 1, rfl, hlt, rfl, Imm.leA, rfl⟩ ⟨rfl, rfl, rfl, rfl, trivial⟩
        · have hge : k = c.length := by simp at hc2; omega
          subst hge
          rw [someG_all hchk]
          refine code_exit ?_
          refine post_exit_then ?_
          refine post_exit_then ?_
          refine post_exit ?_
          refine post_next ?_
          refine code_seq ?_
          refine code_region ?_
          refine op_call pl47 rfl rfl ((awake11_does _)) Parts.none ?_
          rintro v108 I108 _ hI108 ⟨rfl, rfl⟩
          refine op_v (v_move rfl) rfl ?_
          first
            | (refine op_want rfl rfl ?_
               refine op_v (v_move rfl) rfl ?_)
            | (refine op_skip rfl rfl (by simp [undef]) rfl ?_)
          first | refine op_v (v_pickt rfl rfl) rfl ?_ | refine op_v (v_pickf rfl rfl) rfl ?_ | refine op_v (v_pickb rfl rfl rfl) rfl ?_
          refine op_v (v_assign rfl) rfl ?_
          refine ops_nil ?_
          refine post_next ?_
          refine code_ret ?_
          refine post_ret (rs := [.tmp 4]) rfl (List.Perm.refl _) (.cons (.tmp rfl) .nil) (List.nil_sublist _) ?_
          exact ⟨rfl, rfl⟩
  · have h18' : b16 = false := by simpa using h18
    subst h18'
    refine op_v (v_move rfl) rfl ?_
    first
      | (refine op_want rfl rfl ?_
         refine op_v (v_move rfl) rfl ?_)
      | (refine op_skip rfl rfl (by simp [undef]) rfl ?_)
    first
      | (refine op_want rfl rfl ?_
         refine op_v (v_len Try.underlying26 rfl) rfl ?_)
      | (refine op_skip rfl rfl (by simp [undef]) rfl ?_)
    first
      | (refine op_want rfl rfl ?_
         first | refine op_v (v_cmptA rfl rfl rfl) rfl ?_ | refine op_v (v_cmpfA rfl rfl rfl) rfl ?_ | refine op_v (v_cmp rfl rfl rfl) rfl ?_)
      | (refine op_skip rfl rfl (by simp [undef]) rfl ?_)
    first | refine op_v (v_pickt rfl rfl) rfl ?_ | refine op_v (v_pickf rfl rfl) rfl ?_ | refine op_v (v_pickb rfl rfl rfl) rfl ?_
    refine ops_nil ?_
    refine post_next ?_
    refine code_cond_t rfl ?_
    refine code_seq ?_
    refine code_region ?_
    refine op_v (v_assign rfl) rfl ?_
    refine ops_nil ?_
    refine post_next ?_
    refine code_ret ?_
    refine post_ret_then ?_
    refine post_ret (rs := [.tmp 4]) rfl (List.Perm.refl _) (.cons (.tmp rfl) .nil) (List.nil_sublist _) ?_
    exact ⟨rfl, rfl⟩
end Go.Proofs.Ytdbadicpbmndbaa
