/- Walks: the statement on what is put, and its weight. -/
import Derived.Test.YtdcklngleglbbaaSd
set_option linter.unusedVariables false
set_option linter.unusedSimpArgs false
namespace Go.Proofs.Ytdcklngleglbbaa
open Go Lg

theorem WeighPuts_does {I : Imm} {vg v vs : Value} {gs : List Sy} {t : T} {bs : List Bi} (hg : RepG I vg gs) (hv : RepT I v t) (hs : RepB I vs bs) :
    Does Try.prog 14 [vg, v, vs] I [] (fun v I' δ' => v = .bool true ∧ δ' = []) := by
  obtain ⟨ta, tc, rfl, _⟩ := hv.shape
  obtain ⟨ga, gc, rfl⟩ := hg.shape
  obtain ⟨sa, sc, rfl⟩ := hs.shape
  refine Does.intro Try.func14 rfl Try.ntmps14 rfl fun w0 => ?_
  refine code_seq ?_
  refine code_region ?_
  refine o_box rfl rfl rfl (fun b4 => ?_)
  refine op_v (v_assign rfl) rfl ?_
  refine ops_nil ?_
  refine post_next ?_
  refine code_seq ?_
  refine code_seq ?_
  refine code_region ?_
  refine op_v (v_move rfl) rfl ?_
  by_cases h19 : fewG gs = true
  · refine op_call pl34 rfl rfl ((FewG_does hg)) Parts.none ?_
    rintro v19 I19 _ hI19 ⟨rfl, rfl⟩
    rw [h19]
    refine op_v (v_not rfl) rfl ?_
    refine op_v (v_move rfl) rfl ?_
    first
      | (refine op_want rfl rfl ?_
         refine op_v (v_load ty24 rfl (by repeat (first | exact Has.here | apply Has.there)) rfl) rfl ?_)
      | (refine op_skip rfl rfl (by simp [undef]) rfl ?_)
    by_cases h23 : decide (t.size ≤ 500) = true
    · first
        | (refine op_want rfl rfl ?_
           refine op_call pl16 rfl rfl ((Few_is (hv.mono (by repeat (first | exact Imm.le_refl _ | assumption | refine Imm.le_trans ?_ (by assumption)))) h23)) Parts.none ?_
           rintro v23 I23 _ hI23 ⟨rfl, rfl⟩)
        | (refine op_skip rfl rfl (by simp [undef]) rfl ?_)
      first
        | (refine op_want rfl rfl ?_
           refine op_v (v_not rfl) rfl ?_)
        | (refine op_skip rfl rfl (by simp [undef]) rfl ?_)
      first | refine op_v (v_pickt rfl rfl) rfl ?_ | refine op_v (v_pickf rfl rfl) rfl ?_ | refine op_v (v_pickb rfl rfl rfl) rfl ?_
      refine op_v (v_move rfl) rfl ?_
      first
        | (refine op_want rfl rfl ?_
           refine op_v (v_move rfl) rfl ?_)
        | (refine op_skip rfl rfl (by simp [undef]) rfl ?_)
      first
        | (refine op_want rfl rfl ?_
           refine op_call pl46 rfl rfl ((FewB_does (hs.mono (by repeat (first | exact Imm.le_refl _ | assumption | refine Imm.le_trans ?_ (by assumption)))))) Parts.none ?_
           rintro v28 I28 _ hI28 ⟨⟨b28, rfl, hbs⟩, rfl⟩)
        | (refine op_skip rfl rfl (by simp [undef]) rfl ?_)
      by_cases h29 : b28 = true
      · subst h29
        have ht5 : t.size ≤ 500 := of_decide_eq_true h23
        have hbs5 := hbs rfl
        first
          | (refine op_want rfl rfl ?_
             refine op_v (v_not rfl) rfl ?_)
          | (refine op_skip rfl rfl (by simp [undef]) rfl ?_)
        first | refine op_v (v_pickt rfl rfl) rfl ?_ | refine op_v (v_pickf rfl rfl) rfl ?_ | refine op_v (v_pickb rfl rfl rfl) rfl ?_
        refine ops_nil ?_
        refine post_next ?_
        refine code_cond_f rfl ?_
        refine code_skip ?_
        refine post_next ?_
        refine code_seq ?_
        refine code_region ?_
        refine op_v (v_move rfl) rfl ?_
        refine op_v (v_load ty24 rfl (by repeat (first | exact Has.here | apply Has.there)) rfl) rfl ?_
        refine op_call pl47 rfl rfl ((Apply_does (hs.mono (by repeat (first | exact Imm.le_refl _ | assumption | refine Imm.le_trans ?_ (by assumption)))) (hv.mono (by repeat (first | exact Imm.le_refl _ | assumption | refine Imm.le_trans ?_ (by assumption)))) hbs5 ht5)) Parts.none ?_
        rintro v34 I34 _ hI34 ⟨⟨e34, u34, r34, rfl, hu, hA⟩, rfl⟩
        obtain ⟨ua, uc, rfl, _⟩ := hu.shape
        have hus : u34.size ≤ 1000000000 := by rcases hA with ⟨_, _, _, rfl, _⟩ | ⟨_, rfl⟩; (have := sbT_size (m := 500) (by omega) hbs5 t; omega); (decide +kernel)
        refine op_v (v_move rfl) rfl ?_
        refine op_v (v_extract rfl rfl) rfl ?_
        refine op_v (v_extract rfl rfl) rfl ?_
        refine o_alloc z24 rfl rfl (fun b7 => ?_)
        refine o_store ty24 rfl rfl rfl rfl rfl (by repeat (first | exact Swap.here | apply Swap.there)) rfl ?_
        refine op_v (v_assign rfl) rfl ?_
        refine ops_nil ?_
        refine post_next ?_
        refine code_seq ?_
        refine code_region ?_
        refine op_v (v_move rfl) rfl ?_
        refine op_v (v_load ty24 rfl (by repeat (first | exact Has.here | apply Has.there)) rfl) rfl ?_
        refine op_call pl44 rfl rfl ((GWeight_does (hg.mono (by repeat (first | exact Imm.le_refl _ | assumption | refine Imm.le_trans ?_ (by assumption)))) (hv.mono (by repeat (first | exact Imm.le_refl _ | assumption | refine Imm.le_trans ?_ (by assumption)))) (by omega))) Parts.none ?_
        rintro v40 I40 _ hI40 ⟨rfl, rfl⟩
        refine op_v (v_move rfl) rfl ?_
        refine op_v (v_extract rfl rfl) rfl ?_
        refine op_v (v_extract rfl rfl) rfl ?_
        refine op_v (v_assign rfl) rfl ?_
        refine op_v (v_assign rfl) rfl ?_
        refine ops_nil ?_
        refine post_next ?_
        refine code_seq ?_
        refine code_region ?_
        refine op_v (v_move rfl) rfl ?_
        refine op_v (v_load ty24 rfl (by repeat (first | exact Has.here | apply Has.there)) rfl) rfl ?_
        refine op_call pl44 rfl rfl ((GWeight_does (hg.mono (by repeat (first | exact Imm.le_refl _ | assumption | refine Imm.le_trans ?_ (by assumption)))) (hu.mono (by repeat (first | exact Imm.le_refl _ | assumption | refine Imm.le_trans ?_ (by assumption)))) hus)) Parts.none ?_
        rintro v46 I46 _ hI46 ⟨rfl, rfl⟩
        refine op_v (v_move rfl) rfl ?_
        refine op_v (v_extract rfl rfl) rfl ?_
        refine op_v (v_extract rfl rfl) rfl ?_
        refine op_v (v_assign rfl) rfl ?_
        refine op_v (v_assign rfl) rfl ?_
        refine ops_nil ?_
        refine post_next ?_
        refine code_seq ?_
        refine code_seq ?_
        refine code_region ?_
        refine op_v (v_move rfl) rfl ?_
        by_cases h50 : e34 ≠ 0
        · first | refine op_v (v_cmpt rfl rfl rfl (by first | omega | (simp; done) | (simp; omega))) rfl ?_ | refine op_v (v_cmpf rfl rfl rfl (by first | omega | (simp; done) | (simp; omega))) rfl ?_ | refine op_v (v_cmp rfl rfl rfl) rfl ?_
          refine op_v (v_move rfl) rfl ?_
          first
            | (refine op_want rfl rfl ?_
               refine op_v (v_move rfl) rfl ?_)
            | (refine op_skip rfl rfl (by simp [undef]) rfl ?_)
          first
            | (refine op_want rfl rfl ?_
               first | refine op_v (v_cmpt rfl rfl rfl (by first | omega | (simp; done) | (simp; omega))) rfl ?_ | refine op_v (v_cmpf rfl rfl rfl (by first | omega | (simp; done) | (simp; omega))) rfl ?_ | refine op_v (v_cmp rfl rfl rfl) rfl ?_)
            | (refine op_skip rfl rfl (by simp [undef]) rfl ?_)
          first | refine op_v (v_pickt rfl rfl) rfl ?_ | refine op_v (v_pickf rfl rfl) rfl ?_ | refine op_v (v_pickb rfl rfl rfl) rfl ?_
          refine op_v (v_move rfl) rfl ?_
          first
            | (refine op_want rfl rfl ?_
               refine op_v (v_move rfl) rfl ?_)
            | (refine op_skip rfl rfl (by simp [undef]) rfl ?_)
          first
            | (refine op_want rfl rfl ?_
               first | refine op_v (v_cmpt rfl rfl rfl (by first | omega | (simp; done) | (simp; omega))) rfl ?_ | refine op_v (v_cmpf rfl rfl rfl (by first | omega | (simp; done) | (simp; omega))) rfl ?_ | refine op_v (v_cmp rfl rfl rfl) rfl ?_)
            | (refine op_skip rfl rfl (by simp [undef]) rfl ?_)
          first | refine op_v (v_pickt rfl rfl) rfl ?_ | refine op_v (v_pickf rfl rfl) rfl ?_ | refine op_v (v_pickb rfl rfl rfl) rfl ?_
          refine ops_nil ?_
          refine post_next ?_
          refine code_cond_t rfl ?_
          refine code_seq ?_
          refine code_region ?_
          refine op_call pl36 rfl rfl ((awake7_does _)) Parts.none ?_
          rintro v59 I59 _ hI59 ⟨rfl, rfl⟩
          refine op_v (v_assign rfl) rfl ?_
          refine ops_nil ?_
          refine post_next ?_
          refine code_ret ?_
          refine post_ret_then ?_
          refine post_ret (rs := [.tmp 6]) rfl (List.Perm.refl _) (.cons (.tmp rfl) .nil) (List.nil_sublist _) ?_
          exact ⟨rfl, rfl⟩
        · first | refine op_v (v_cmpt rfl rfl rfl (by first | omega | (simp; done) | (simp; omega))) rfl ?_ | refine op_v (v_cmpf rfl rfl rfl (by first | omega | (simp; done) | (simp; omega))) rfl ?_ | refine op_v (v_cmp rfl rfl rfl) rfl ?_
          refine op_v (v_move rfl) rfl ?_
          first
            | (refine op_want rfl rfl ?_
               refine op_v (v_move rfl) rfl ?_)
            | (refine op_skip rfl rfl (by simp [undef]) rfl ?_)
          by_cases h53 : termG gs t ≠ 0
          · first
              | (refine op_want rfl rfl ?_
                 first | refine op_v (v_cmpt rfl rfl rfl (by first | omega | (simp; done) | (simp; omega))) rfl ?_ | refine op_v (v_cmpf rfl rfl rfl (by first | omega | (simp; done) | (simp; omega))) rfl ?_ | refine op_v (v_cmp rfl rfl rfl) rfl ?_)
              | (refine op_skip rfl rfl (by simp [undef]) rfl ?_)
            first | refine op_v (v_pickt rfl rfl) rfl ?_ | refine op_v (v_pickf rfl rfl) rfl ?_ | refine op_v (v_pickb rfl rfl rfl) rfl ?_
            refine op_v (v_move rfl) rfl ?_
            first
              | (refine op_want rfl rfl ?_
                 refine op_v (v_move rfl) rfl ?_)
              | (refine op_skip rfl rfl (by simp [undef]) rfl ?_)
            first
              | (refine op_want rfl rfl ?_
                 first | refine op_v (v_cmpt rfl rfl rfl (by first | omega | (simp; done) | (simp; omega))) rfl ?_ | refine op_v (v_cmpf rfl rfl rfl (by first | omega | (simp; done) | (simp; omega))) rfl ?_ | refine op_v (v_cmp rfl rfl rfl) rfl ?_)
              | (refine op_skip rfl rfl (by simp [undef]) rfl ?_)
            first | refine op_v (v_pickt rfl rfl) rfl ?_ | refine op_v (v_pickf rfl rfl) rfl ?_ | refine op_v (v_pickb rfl rfl rfl) rfl ?_
            refine ops_nil ?_
            refine post_next ?_
            refine code_cond_t rfl ?_
            refine code_seq ?_
            refine code_region ?_
            refine op_call pl36 rfl rfl ((awake7_does _)) Parts.none ?_
            rintro v59 I59 _ hI59 ⟨rfl, rfl⟩
            refine op_v (v_assign rfl) rfl ?_
            refine ops_nil ?_
            refine post_next ?_
            refine code_ret ?_
            refine post_ret_then ?_
            refine post_ret (rs := [.tmp 6]) rfl (List.Perm.refl _) (.cons (.tmp rfl) .nil) (List.nil_sublist _) ?_
            exact ⟨rfl, rfl⟩
          · first
              | (refine op_want rfl rfl ?_
                 first | refine op_v (v_cmpt rfl rfl rfl (by first | omega | (simp; done) | (simp; omega))) rfl ?_ | refine op_v (v_cmpf rfl rfl rfl (by first | omega | (simp; done) | (simp; omega))) rfl ?_ | refine op_v (v_cmp rfl rfl rfl) rfl ?_)
              | (refine op_skip rfl rfl (by simp [undef]) rfl ?_)
            first | refine op_v (v_pickt rfl rfl) rfl ?_ | refine op_v (v_pickf rfl rfl) rfl ?_ | refine op_v (v_pickb rfl rfl rfl) rfl ?_
            refine op_v (v_move rfl) rfl ?_
            first
              | (refine op_want rfl rfl ?_
                 refine op_v (v_move rfl) rfl ?_)
              | (refine op_skip rfl rfl (by simp [undef]) rfl ?_)
            by_cases h57 : termG gs u34 ≠ 0
            · first
                | (refine op_want rfl rfl ?_
                   first | refine op_v (v_cmpt rfl rfl rfl (by first | omega | (simp; done) | (simp; omega))) rfl ?_ | refine op_v (v_cmpf rfl rfl rfl (by first | omega | (simp; done) | (simp; omega))) rfl ?_ | refine op_v (v_cmp rfl rfl rfl) rfl ?_)
                | (refine op_skip rfl rfl (by simp [undef]) rfl ?_)
              first | refine op_v (v_pickt rfl rfl) rfl ?_ | refine op_v (v_pickf rfl rfl) rfl ?_ | refine op_v (v_pickb rfl rfl rfl) rfl ?_
              refine ops_nil ?_
              refine post_next ?_
              refine code_cond_t rfl ?_
              refine code_seq ?_
              refine code_region ?_
              refine op_call pl36 rfl rfl ((awake7_does _)) Parts.none ?_
              rintro v59 I59 _ hI59 ⟨rfl, rfl⟩
              refine op_v (v_assign rfl) rfl ?_
              refine ops_nil ?_
              refine post_next ?_
              refine code_ret ?_
              refine post_ret_then ?_
              refine post_ret (rs := [.tmp 6]) rfl (List.Perm.refl _) (.cons (.tmp rfl) .nil) (List.nil_sublist _) ?_
              exact ⟨rfl, rfl⟩
            · have hOt := termG_ok.1 (show termG gs t = 0 by omega)
              have hOu := termG_ok.1 (show termG gs u34 = 0 by omega)
              have hus2 : u34 = sbT bs t := by rcases hA with h | h; exact h.2.2.2.1; exact absurd h.1 h50
              rw [hus2] at hOu
              rw [if_pos (show termG gs t = 0 by omega), if_pos (show termG gs u34 = 0 by omega), hus2]
              rw [hus2] at h57
              first
                | (refine op_want rfl rfl ?_
                   first | refine op_v (v_cmpt rfl rfl rfl (by first | omega | (simp; done) | (simp; omega))) rfl ?_ | refine op_v (v_cmpf rfl rfl rfl (by first | omega | (simp; done) | (simp; omega))) rfl ?_ | refine op_v (v_cmp rfl rfl rfl) rfl ?_)
                | (refine op_skip rfl rfl (by simp [undef]) rfl ?_)
              first | refine op_v (v_pickt rfl rfl) rfl ?_ | refine op_v (v_pickf rfl rfl) rfl ?_ | refine op_v (v_pickb rfl rfl rfl) rfl ?_
              refine ops_nil ?_
              refine post_next ?_
              refine code_cond_f rfl ?_
              refine code_skip ?_
              refine post_next ?_
              refine code_seq ?_
              refine code_region ?_
              refine op_v (v_load ty24 rfl (by repeat (first | exact Has.here | apply Has.there)) rfl) rfl ?_
              refine op_call pl48 rfl rfl ((Counts_does (hv.mono (by repeat (first | exact Imm.le_refl _ | assumption | refine Imm.le_trans ?_ (by assumption)))) (by omega))) Parts.none ?_
              rintro v61 I61 _ hI61 ⟨⟨cs, hcs, hC⟩, rfl⟩
              have hP := puts_of hOt hOu hC
              obtain ⟨ca, cc, _, hcc, hcb, hcat, hcr⟩ := hcs
              have hlen := hP.len
              refine op_v (v_assign rfl) rfl ?_
              refine ops_nil ?_
              refine post_next ?_
              refine code_seq ?_
              refine code_region ?_
              refine op_v (v_assign rfl) rfl ?_
              refine ops_nil ?_
              refine post_next ?_
              refine code_seq ?_
              refine code_seq ?_
              refine code_region ?_
              refine op_v (v_assign rfl) rfl ?_
              refine ops_nil ?_
              refine post_next ?_
              refine code_block ?_
              refine CodeJ.view View.nil ?_
              refine code_loop (fun m σ' I' δ' => ∃ k : Nat, m = cs.length - k ∧ k ≤ cs.length ∧ σ' = [(0, .slice ga gs.length gc), (2, .slice sa bs.length sc), (9, .int .i64 (wgtG gs t)), (11, .int .i64 (wgtG gs (sbT bs t))), (13, .slice ca cs.length cc), (14, .int .i64 (accF (moreF gs bs) (hds t) k)), (15, .int .i64 k)] ∧ I61.le I' ∧ δ' = []) cs.length [(0, .slice ga gs.length gc), (2, .slice sa bs.length sc), (9, .int .i64 (wgtG gs t)), (11, .int .i64 (wgtG gs (sbT bs t))), (13, .slice ca cs.length cc), (14, .int .i64 0), (15, .int .i64 (0 : Nat))] ⟨0, rfl, Nat.zero_le _, rfl, Imm.le_refl _, rfl⟩ ⟨rfl, rfl, rfl, rfl, rfl, rfl, rfl, trivial⟩ ?_
              rintro m _ I0 _ ⟨k, rfl, hk, rfl, hI0, rfl⟩
              refine code_seq ?_
              refine code_seq ?_
              refine code_region ?_
              refine op_v (v_move rfl) rfl ?_
              refine op_v (v_move rfl) rfl ?_
              refine op_v (v_len Try.underlying25 rfl) rfl ?_
              first | refine op_v (v_cmpt rfl rfl rfl (by first | omega | (simp; done) | (simp; omega))) rfl ?_ | refine op_v (v_cmpf rfl rfl rfl (by first | omega | (simp; done) | (simp; omega))) rfl ?_ | refine op_v (v_cmp rfl rfl rfl) rfl ?_
              refine ops_nil ?_
              refine post_next ?_
              refine code_cond rfl (fun hc2 => ?_) (fun hc2 => ?_)
              · have hlt : k < cs.length := by simpa using hc2
                have hs1 := ints_some hcat k hlt
                have hget : cs[k] = (((hds t).count (-1 - (k : Int)) : Nat) : Int) := by have := hP.get k hlt; rwa [List.getD_eq_getElem?_getD, List.getElem?_eq_getElem hlt] at this
                refine code_skip ?_
                refine post_next ?_
                refine code_seq ?_
                refine code_block ?_
                refine code_seq ?_
                refine code_seq ?_
                refine code_region ?_
                refine op_v (v_move rfl) rfl ?_
                refine op_v (v_move rfl) rfl ?_
                first | refine op_v (v_index Try.underlying25 sz3 rfl rfl (by omega) (by assumption)) rfl ?_ | refine op_v (v_indexI Try.underlying25 sz3 rfl rfl (by first | omega | (simp; done) | (simp; omega)) (by first | omega | (simp; done) | (simp; omega)) (by assumption)) rfl ?_
                first | refine op_v (v_loadI0 ty3 ((ints_at hcat k hlt).mono hI0) rfl rfl rfl) rfl ?_ | refine op_v (v_loadI ty3 ((ints_at hcat k hlt).mono hI0) rfl rfl rfl) rfl ?_
                by_cases hz : cs[k] = 0
                · first | refine op_v (v_cmpt rfl rfl rfl (by first | omega | (simp; done) | (simp; omega))) rfl ?_ | refine op_v (v_cmpf rfl rfl rfl (by first | omega | (simp; done) | (simp; omega))) rfl ?_ | refine op_v (v_cmp rfl rfl rfl) rfl ?_
                  refine ops_nil ?_
                  refine post_next ?_
                  refine code_cond_t rfl ?_
                  refine code_exit ?_
                  refine post_exit_then ?_
                  refine post_exit ?_
                  refine post_next ?_
                  refine code_region ?_
                  refine op_v (v_move rfl) rfl ?_
                  first | refine op_v (v_addb rfl rfl rfl (by omega)) rfl ?_ | refine op_v (v_add rfl rfl) rfl ?_
                  refine op_v (v_assign rfl) rfl ?_
                  refine ops_nil ?_
                  refine post_again (cs.length - (k + 1)) [(0, .slice ga gs.length gc), (2, .slice sa bs.length sc), (9, .int .i64 (wgtG gs t)), (11, .int .i64 (wgtG gs (sbT bs t))), (13, .slice ca cs.length cc), (14, .int .i64 (accF (moreF gs bs) (hds t) k)), (15, .int .i64 (k + 1 : Nat))] (by omega) ⟨k + 1, rfl, hlt, by simp only [accF]; rw [← hget, hz]; simp, hI0, rfl⟩ ⟨rfl, rfl, rfl, rfl, rfl, rfl, rfl, trivial⟩
                · have hOk := hP.ok k hlt (by rw [List.getD_eq_getElem?_getD, List.getElem?_eq_getElem hlt]; exact hz)
                  have hwr := wgtG_range hOk
                  have hwp := (ofT bs (.mk (-1 - (k : Int)) [])).size_pos
                  have hwz : (ofT bs (.mk (-1 - (k : Int)) [])).size ≤ 500 := by have := ofT_size (m := 500) (by omega) hbs5 (.mk (-1 - (k : Int)) []); simpa [T.size, sizeL] using this
                  have hone := hP.one k hlt
                  have hle1 := hP.le k (by omega)
                  have hle2 := hP.le (k + 1) hlt
                  have hacc : accF (moreF gs bs) (hds t) (k + 1) = accF (moreF gs bs) (hds t) k + cs[k] * (wgtG gs (ofT bs (.mk (-1 - (k : Int)) [])) - 1) := by rw [hget]; rfl
                  obtain ⟨q2, hq2⟩ : ∃ q2 : Int, q2 = cs[k] * (wgtG gs (ofT bs (.mk (-1 - (k : Int)) [])) - 1) := ⟨_, rfl⟩
                  rw [← hq2] at hacc
                  first | refine op_v (v_cmpt rfl rfl rfl (by first | omega | (simp; done) | (simp; omega))) rfl ?_ | refine op_v (v_cmpf rfl rfl rfl (by first | omega | (simp; done) | (simp; omega))) rfl ?_ | refine op_v (v_cmp rfl rfl rfl) rfl ?_
                  refine ops_nil ?_
                  refine post_next ?_
                  refine code_cond_f rfl ?_
                  refine code_skip ?_
                  refine post_next ?_
                  refine code_seq ?_
                  refine code_region ?_
                  refine op_v (v_move rfl) rfl ?_
                  refine op_v (v_move rfl) rfl ?_
                  refine op_v (v_move rfl) rfl ?_
                  refine op_call pl49 rfl rfl ((Of_does (hs.mono (by repeat (first | exact Imm.le_refl _ | assumption | refine Imm.le_trans ?_ (by assumption)))) (by omega) (by omega))) Parts.none ?_
                  rintro v77 I77 _ hI77 ⟨hv77, rfl⟩
                  refine op_call pl44 rfl rfl ((GWeight_does (hg.mono (by repeat (first | exact Imm.le_refl _ | assumption | refine Imm.le_trans ?_ (by assumption)))) hv77 (by omega))) Parts.none ?_
                  rintro v78 I78 _ hI78 ⟨rfl, rfl⟩
                  rw [if_pos (termG_ok.2 hOk), termG_ok.2 hOk]
                  refine op_v (v_move rfl) rfl ?_
                  refine op_v (v_extract rfl rfl) rfl ?_
                  refine op_v (v_extract rfl rfl) rfl ?_
                  refine op_v (v_assign rfl) rfl ?_
                  refine op_v (v_assign rfl) rfl ?_
                  refine ops_nil ?_
                  refine post_next ?_
                  refine code_seq ?_
                  refine code_seq ?_
                  refine code_region ?_
                  refine op_v (v_move rfl) rfl ?_
                  first | refine op_v (v_cmpt rfl rfl rfl (by first | omega | (simp; done) | (simp; omega))) rfl ?_ | refine op_v (v_cmpf rfl rfl rfl (by first | omega | (simp; done) | (simp; omega))) rfl ?_ | refine op_v (v_cmp rfl rfl rfl) rfl ?_
                  refine op_v (v_move rfl) rfl ?_
                  first
                    | (refine op_want rfl rfl ?_
                       refine op_v (v_move rfl) rfl ?_)
                    | (refine op_skip rfl rfl (by simp [undef]) rfl ?_)
                  first
                    | (refine op_want rfl rfl ?_
                       first | refine op_v (v_cmpt rfl rfl rfl (by first | omega | (simp; done) | (simp; omega))) rfl ?_ | refine op_v (v_cmpf rfl rfl rfl (by first | omega | (simp; done) | (simp; omega))) rfl ?_ | refine op_v (v_cmp rfl rfl rfl) rfl ?_)
                    | (refine op_skip rfl rfl (by simp [undef]) rfl ?_)
                  first | refine op_v (v_pickt rfl rfl) rfl ?_ | refine op_v (v_pickf rfl rfl) rfl ?_ | refine op_v (v_pickb rfl rfl rfl) rfl ?_
                  refine ops_nil ?_
                  refine post_next ?_
                  refine code_cond_f rfl ?_
                  refine code_skip ?_
                  refine post_next ?_
                  refine code_region ?_
                  refine op_v (v_move rfl) rfl ?_
                  refine op_v (v_move rfl) rfl ?_
                  refine op_v (v_move rfl) rfl ?_
                  first | refine op_v (v_index Try.underlying25 sz3 rfl rfl (by omega) (by assumption)) rfl ?_ | refine op_v (v_indexI Try.underlying25 sz3 rfl rfl (by first | omega | (simp; done) | (simp; omega)) (by first | omega | (simp; done) | (simp; omega)) (by assumption)) rfl ?_
                  first | refine op_v (v_loadI0 ty3 ((ints_at hcat k hlt).mono (by repeat (first | exact Imm.le_refl _ | assumption | refine Imm.le_trans ?_ (by assumption)))) rfl rfl rfl) rfl ?_ | refine op_v (v_loadI ty3 ((ints_at hcat k hlt).mono (by repeat (first | exact Imm.le_refl _ | assumption | refine Imm.le_trans ?_ (by assumption)))) rfl rfl rfl) rfl ?_
                  refine op_v (v_move rfl) rfl ?_
                  first | refine op_v (v_subb rfl rfl rfl (by omega)) rfl ?_ | refine op_v (v_sub rfl rfl) rfl ?_
                  refine op_v (v_mulb (c := q2) rfl rfl hq2.symm ⟨by omega, by omega⟩) rfl ?_
                  first | refine op_v (v_addb rfl rfl rfl (by omega)) rfl ?_ | refine op_v (v_add rfl rfl) rfl ?_
                  refine op_v (v_assign rfl) rfl ?_
                  refine ops_nil ?_
                  refine post_out ?_
                  refine post_next ?_
                  refine code_region ?_
                  refine op_v (v_move rfl) rfl ?_
                  first | refine op_v (v_addb rfl rfl rfl (by omega)) rfl ?_ | refine op_v (v_add rfl rfl) rfl ?_
                  refine op_v (v_assign rfl) rfl ?_
                  refine ops_nil ?_
                  refine post_again (cs.length - (k + 1)) [(0, .slice ga gs.length gc), (2, .slice sa bs.length sc), (9, .int .i64 (wgtG gs t)), (11, .int .i64 (wgtG gs (sbT bs t))), (13, .slice ca cs.length cc), (14, .int .i64 (accF (moreF gs bs) (hds t) k + q2)), (15, .int .i64 (k + 1 : Nat))] (by omega) ⟨k + 1, rfl, hlt, by rw [hacc], (by repeat (first | exact Imm.le_refl _ | assumption | refine Imm.le_trans ?_ (by assumption))), rfl⟩ ⟨rfl, rfl, rfl, rfl, rfl, rfl, rfl, trivial⟩
              · have hge : k = cs.length := by simp at hc2; omega
                refine code_exit ?_
                refine post_exit_then ?_
                refine post_exit_then ?_
                refine post_exit ?_
                refine post_next ?_
                refine code_seq ?_
                refine code_region ?_
                have htot := hP.tot
                rw [← hge] at htot
                have hle3 := hP.le k (by omega)
                have hrt := wgtG_range hOt
                refine op_call pl36 rfl rfl ((awake7_does _)) Parts.none ?_
                rintro v96 I96 _ hI96 ⟨rfl, rfl⟩
                refine op_v (v_move rfl) rfl ?_
                first
                  | (refine op_want rfl rfl ?_
                     refine op_v (v_move rfl) rfl ?_)
                  | (refine op_skip rfl rfl (by simp [undef]) rfl ?_)
                first
                  | (refine op_want rfl rfl ?_
                     refine op_v (v_move rfl) rfl ?_)
                  | (refine op_skip rfl rfl (by simp [undef]) rfl ?_)
                first
                  | (refine op_want rfl rfl ?_
                     refine op_v (v_move rfl) rfl ?_)
                  | (refine op_skip rfl rfl (by simp [undef]) rfl ?_)
                first
                  | (refine op_want rfl rfl ?_
                     first | refine op_v (v_addb rfl rfl rfl (by omega)) rfl ?_ | refine op_v (v_add rfl rfl) rfl ?_)
                  | (refine op_skip rfl rfl (by simp [undef]) rfl ?_)
                first
                  | (refine op_want rfl rfl ?_
                     first | refine op_v (v_cmpt rfl rfl rfl (by first | omega | (simp; done) | (simp; omega))) rfl ?_ | refine op_v (v_cmpf rfl rfl rfl (by first | omega | (simp; done) | (simp; omega))) rfl ?_ | refine op_v (v_cmp rfl rfl rfl) rfl ?_)
                  | (refine op_skip rfl rfl (by simp [undef]) rfl ?_)
                first | refine op_v (v_pickt rfl rfl) rfl ?_ | refine op_v (v_pickf rfl rfl) rfl ?_ | refine op_v (v_pickb rfl rfl rfl) rfl ?_
                refine op_v (v_move rfl) rfl ?_
                first
                  | (refine op_want rfl rfl ?_
                     refine op_v (v_move rfl) rfl ?_)
                  | (refine op_skip rfl rfl (by simp [undef]) rfl ?_)
                first
                  | (refine op_want rfl rfl ?_
                     refine op_v (v_move rfl) rfl ?_)
                  | (refine op_skip rfl rfl (by simp [undef]) rfl ?_)
                first
                  | (refine op_want rfl rfl ?_
                     first | refine op_v (v_cmpt rfl rfl rfl (by first | omega | (simp; done) | (simp; omega))) rfl ?_ | refine op_v (v_cmpf rfl rfl rfl (by first | omega | (simp; done) | (simp; omega))) rfl ?_ | refine op_v (v_cmp rfl rfl rfl) rfl ?_)
                  | (refine op_skip rfl rfl (by simp [undef]) rfl ?_)
                first | refine op_v (v_pickt rfl rfl) rfl ?_ | refine op_v (v_pickf rfl rfl) rfl ?_ | refine op_v (v_pickb rfl rfl rfl) rfl ?_
                refine op_v (v_assign rfl) rfl ?_
                refine ops_nil ?_
                refine post_next ?_
                refine code_ret ?_
                refine post_ret (rs := [.tmp 6]) rfl (List.Perm.refl _) (.cons (.tmp rfl) .nil) (List.nil_sublist _) ?_
                exact ⟨rfl, rfl⟩
      · have h29' : b28 = false := by simpa using h29
        subst h29'
        first
          | (refine op_want rfl rfl ?_
             refine op_v (v_not rfl) rfl ?_)
          | (refine op_skip rfl rfl (by simp [undef]) rfl ?_)
        first | refine op_v (v_pickt rfl rfl) rfl ?_ | refine op_v (v_pickf rfl rfl) rfl ?_ | refine op_v (v_pickb rfl rfl rfl) rfl ?_
        refine ops_nil ?_
        refine post_next ?_
        refine code_cond_t rfl ?_
        refine code_seq ?_
        refine code_region ?_
        refine op_v (v_assign rfl) rfl ?_
        refine ops_nil ?_
        refine post_next ?_
        refine code_ret ?_
        refine post_ret_then ?_
        refine post_ret (rs := [.tmp 6]) rfl (List.Perm.refl _) (.cons (.tmp rfl) .nil) (List.nil_sublist _) ?_
        exact ⟨rfl, rfl⟩
    · have h23' : decide (t.size ≤ 500) = false := by simpa using h23
      first
        | (refine op_want rfl rfl ?_
           refine op_call pl16 rfl rfl ((Few_is (hv.mono (by repeat (first | exact Imm.le_refl _ | assumption | refine Imm.le_trans ?_ (by assumption)))) h23')) Parts.none ?_
           rintro v23 I23 _ hI23 ⟨rfl, rfl⟩)
        | (refine op_skip rfl rfl (by simp [undef]) rfl ?_)
      first
        | (refine op_want rfl rfl ?_
           refine op_v (v_not rfl) rfl ?_)
        | (refine op_skip rfl rfl (by simp [undef]) rfl ?_)
      first | refine op_v (v_pickt rfl rfl) rfl ?_ | refine op_v (v_pickf rfl rfl) rfl ?_ | refine op_v (v_pickb rfl rfl rfl) rfl ?_
      refine op_v (v_move rfl) rfl ?_
      first
        | (refine op_want rfl rfl ?_
           refine op_v (v_move rfl) rfl ?_)
        | (refine op_skip rfl rfl (by simp [undef]) rfl ?_)
      first
        | (refine op_want rfl rfl ?_
           refine op_call pl46 rfl rfl ((FewB_does (hs.mono (by repeat (first | exact Imm.le_refl _ | assumption | refine Imm.le_trans ?_ (by assumption)))))) Parts.none ?_
           rintro v28 I28 _ hI28 ⟨⟨b28, rfl, hbs⟩, rfl⟩)
        | (refine op_skip rfl rfl (by simp [undef]) rfl ?_)
      first
        | (refine op_want rfl rfl ?_
           refine op_v (v_not rfl) rfl ?_)
        | (refine op_skip rfl rfl (by simp [undef]) rfl ?_)
      first | refine op_v (v_pickt rfl rfl) rfl ?_ | refine op_v (v_pickf rfl rfl) rfl ?_ | refine op_v (v_pickb rfl rfl rfl) rfl ?_
      refine ops_nil ?_
      refine post_next ?_
      refine code_cond_t rfl ?_
      refine code_seq ?_
      refine code_region ?_
      refine op_v (v_assign rfl) rfl ?_
      refine ops_nil ?_
      refine post_next ?_
      refine code_ret ?_
      refine post_ret_then ?_
      refine post_ret (rs := [.tmp 6]) rfl (List.Perm.refl _) (.cons (.tmp rfl) .nil) (List.nil_sublist _) ?_
      exact ⟨rfl, rfl⟩
  · have h19' : fewG gs = false := by simpa using h19
    refine op_call pl34 rfl rfl ((FewG_does hg)) Parts.none ?_
    rintro v19 I19 _ hI19 ⟨rfl, rfl⟩
    rw [h19']
    refine op_v (v_not rfl) rfl ?_
    refine op_v (v_move rfl) rfl ?_
    first
      | (refine op_want rfl rfl ?_
         refine op_v (v_load ty24 rfl (by repeat (first | exact Has.here | apply Has.there)) rfl) rfl ?_)
      | (refine op_skip rfl rfl (by simp [undef]) rfl ?_)
    first
      | (refine op_want rfl rfl ?_
         refine op_call pl16 rfl rfl ((Few_is (hv.mono (by repeat (first | exact Imm.le_refl _ | assumption | refine Imm.le_trans ?_ (by assumption)))) rfl)) Parts.none ?_
         rintro v23 I23 _ hI23 ⟨rfl, rfl⟩)
      | (refine op_skip rfl rfl (by simp [undef]) rfl ?_)
    first
      | (refine op_want rfl rfl ?_
         refine op_v (v_not rfl) rfl ?_)
      | (refine op_skip rfl rfl (by simp [undef]) rfl ?_)
    first | refine op_v (v_pickt rfl rfl) rfl ?_ | refine op_v (v_pickf rfl rfl) rfl ?_ | refine op_v (v_pickb rfl rfl rfl) rfl ?_
    refine op_v (v_move rfl) rfl ?_
    first
      | (refine op_want rfl rfl ?_
         refine op_v (v_move rfl) rfl ?_)
      | (refine op_skip rfl rfl (by simp [undef]) rfl ?_)
    first
      | (refine op_want rfl rfl ?_
         refine op_call pl46 rfl rfl ((FewB_does (hs.mono (by repeat (first | exact Imm.le_refl _ | assumption | refine Imm.le_trans ?_ (by assumption)))))) Parts.none ?_
         rintro v28 I28 _ hI28 ⟨⟨b28, rfl, hbs⟩, rfl⟩)
      | (refine op_skip rfl rfl (by simp [undef]) rfl ?_)
    first
      | (refine op_want rfl rfl ?_
         refine op_v (v_not rfl) rfl ?_)
      | (refine op_skip rfl rfl (by simp [undef]) rfl ?_)
    first | refine op_v (v_pickt rfl rfl) rfl ?_ | refine op_v (v_pickf rfl rfl) rfl ?_ | refine op_v (v_pickb rfl rfl rfl) rfl ?_
    refine ops_nil ?_
    refine post_next ?_
    refine code_cond_t rfl ?_
    refine code_seq ?_
    refine code_region ?_
    refine op_v (v_assign rfl) rfl ?_
    refine ops_nil ?_
    refine post_next ?_
    refine code_ret ?_
    refine post_ret_then ?_
    refine post_ret (rs := [.tmp 6]) rfl (List.Perm.refl _) (.cons (.tmp rfl) .nil) (List.nil_sublist _) ?_
    exact ⟨rfl, rfl⟩
end Go.Proofs.Ytdcklngleglbbaa
