/- Walks: what is left of a clause: the statement. -/
import Derived.Test.YtdbadicpbmndbaaZ5
set_option linter.unusedVariables false
set_option linter.unusedSimpArgs false
set_option linter.unnecessarySimpa false
/- short -/
namespace Go.Proofs.Ytdbadicpbmndbaa
open Go Lg

theorem tidy_at {c : List Li} {k : Nat} (hk : k < c.length) : goneL (tidyGo [] (c.take k)) c[k] = false ↔ ∃ h : (tidyGo [] (c.take k)).length < (tidyL c).length, (tidyL c)[(tidyGo [] (c.take k)).length] = c[k] := by
  constructor
  · intro h
    have h1 := tidyGo_succ c k hk
    rw [if_neg (by rw [h]; simp)] at h1
    obtain ⟨d, hd⟩ := tidyL_take c (k + 1)
    rw [h1] at hd
    refine ⟨by rw [hd]; simp, ?_⟩
    simp only [hd]
    rw [List.getElem_append_left (by simp), List.getElem_append_right (Nat.le_refl _)]; simp
  · rintro ⟨h, e⟩
    obtain ⟨d, hd⟩ := tidyL_take c k
    have h1 := tidyL_ok c _ h
    rw [e] at h1
    have h2 : (tidyL c).take (tidyGo [] (c.take k)).length = tidyGo [] (c.take k) := by rw [hd, List.take_left]
    rw [h2] at h1; exact h1
theorem tidyL_len_full (c : List Li) : tidyGo [] (c.take c.length) = tidyL c := by rw [List.take_length]; rfl
theorem any_same (l : List Li) (x : Li) : (l.any fun m => sameL m x) = l.any fun m => sameL x m := by
  congr 1; funext m; exact sameL_comm m x
theorem ClauseTidy_does {I : Imm} {v : Value} {c : List Li} (hv : RepC I v c) :
    Does Try.prog 6 [v] I [] (fun v I' δ' => v = .bool true ∧ δ' = []) := by
  have hv0 := hv
  obtain ⟨t, htd⟩ : ∃ t, t = tidyL c := ⟨_, rfl⟩
  have hok : TidyOK t := by rw [htd]; exact tidyL_ok c
  have hid : tidyL t = t := by rw [htd]; exact tidyL_idem c
  have htlen : t.length ≤ c.length := by rw [htd]; have := tidyGo_len [] c; simp only [List.length_nil, Nat.zero_add] at this; exact this
  have htmem : ∀ x ∈ t, x ∈ c := fun x hx => by rw [htd] at hx; rcases tidyGo_mem [] c x hx with h | h; cases h; exact h
  obtain ⟨ad, c0, xs, rfl, hc, hb, hcells, hrow⟩ := hv
  refine Does.intro Try.func6 rfl Try.ntmps6 rfl fun w0 => ?_
  refine code_seq ?_
  refine code_region ?_
  refine op_v (v_assign rfl) rfl ?_
  refine ops_nil ?_
  refine post_next ?_
  refine code_seq ?_
  refine code_seq ?_
  refine code_region ?_
  refine op_v (v_move rfl) rfl ?_
  refine op_call pl28 rfl rfl ((Few10_does hv0)) Parts.none ?_
  rintro v11 I11 _ hI11 ⟨⟨b11, rfl, hb11⟩, rfl⟩
  by_cases h12 : b11 = true
  · subst h12
    have hf := hb11 rfl
    have hs := hf.sm
    have hst : SmC t := hs.sub htmem
    refine op_v (v_not rfl) rfl ?_
    refine ops_nil ?_
    refine post_next ?_
    refine code_cond_f rfl ?_
    refine code_skip ?_
    refine post_next ?_
    refine code_seq ?_
    refine code_region ?_
    refine op_v (v_move rfl) rfl ?_
    refine op_call pl29 rfl rfl ((CTidy_does (hv0.mono hI11) hs)) Parts.none ?_
    rintro v14 I14 _ hI14 ⟨ht14, rfl⟩
    rw [← htd] at ht14
    have ht14' := ht14
    obtain ⟨td, tc, zs, rfl, htc, htb, htcells, htrow⟩ := ht14
    refine op_v (v_assign rfl) rfl ?_
    refine ops_nil ?_
    refine post_next ?_
    refine code_seq ?_
    refine code_region ?_
    refine op_v (v_assign rfl) rfl ?_
    refine ops_nil ?_
    refine post_next ?_
    refine code_seq ?_
    refine code_seq ?_
    refine code_region ?_
    refine op_v (v_assign rfl) rfl ?_
    refine ops_nil ?_
    refine post_next ?_
    refine code_block ?_
    refine code_loop (fun m σ' I' δ' => ∃ k : Nat, m = c.length - k ∧ k ≤ c.length ∧ σ' = [(0, .slice ad c.length c0), (3, .slice td t.length tc), (4, .int .i64 (tidyGo [] (c.take k)).length), (5, .int .i64 k)] ∧ I14.le I' ∧ δ' = []) c.length [(0, .slice ad c.length c0), (3, .slice td t.length tc), (4, .int .i64 (0 : Nat)), (5, .int .i64 (0 : Nat))] ⟨0, rfl, Nat.zero_le _, rfl, Imm.le_refl _, rfl⟩ ⟨rfl, rfl, rfl, rfl, trivial⟩ ?_
    rintro m _ I0 _ ⟨k, rfl, hk, rfl, hI0, rfl⟩
    have hle0 : I.le I0 := Imm.leA
    have htl := tidyGo_len [] (c.take k)
    rw [List.length_take, List.length_nil] at htl
    refine code_seq ?_
    refine code_seq ?_
    refine code_region ?_
    refine op_v (v_move rfl) rfl ?_
    refine op_v (v_move rfl) rfl ?_
    refine op_v (v_len Try.underlying26 rfl) rfl ?_
    first | refine op_v (v_cmptA rfl rfl rfl) rfl ?_ | refine op_v (v_cmpfA rfl rfl rfl) rfl ?_ | refine op_v (v_cmp rfl rfl rfl) rfl ?_
    refine ops_nil ?_
    refine post_next ?_
    refine code_cond rfl (fun hc1 => ?_) (fun hc1 => ?_)
    · have hlt : k < c.length := by have h := hc1; simp at h; omega
      obtain ⟨vs, ⟨la, lc, ra, rc, rfl, hl, hr⟩, hat⟩ := hrow.cellsAt hcells hlt
      replace hat := hat.mono hle0
      replace hl := hl.mono hle0
      replace hr := hr.mono hle0
      have hs1 := hat.isSome
      have hsk := hs.at hlt
      have hsu := tidyGo_succ c k hlt
      have hta := tidy_at hlt
      simp only [← htd] at hta
      obtain ⟨d, hd⟩ := tidyL_take c k
      rw [← htd] at hd
      have htk : t.take (tidyGo [] (c.take k)).length = tidyGo [] (c.take k) := by rw [hd, List.take_left]
      refine code_skip ?_
      refine post_next ?_
      refine code_seq ?_
      refine code_block ?_
      refine code_seq_meet (fun σ' I' δ' => goneL (tidyGo [] (c.take k)) c[k] = true ∧ σ' = [(0, .slice ad c.length c0), (3, .slice td t.length tc), (4, .int .i64 (tidyGo [] (c.take k)).length), (5, .int .i64 k)] ∧ I0.le I' ∧ δ' = []) ?_ ?_
      · refine code_seq ?_
        refine code_draw (.fl 0 (.fl 1 (.fl 2 (.fl 3 (.fl 4 (.fl 5 (.fl 6 (.fl 7 (.fl 8 (.fl 9 (.fl 10 (.fl 11 (.fl 12 (.ef 13 (.fl 14 .done))))))))))))))) (fun _ => _) mixed (by kernel_rfl) (by kernel_rfl) (fun _ => (List.Sublist.refl _)) ?_
        refine e_fl rfl rfl (fun hs_ => PF.mk rfl (v_move rfl) hs_) ?_
        refine e_fl rfl rfl (fun hs_ => PF.mk rfl (v_move rfl) hs_) ?_
        refine e_fl rfl rfl (fun hs_ => PF.mk rfl (v_len Try.underlying26 rfl) hs_) ?_
        by_cases h24 : (tidyGo [] (c.take k)).length < t.length
        · obtain ⟨vs2, ⟨ma, mc, na, nc, rfl, hml, hmr⟩, hat2⟩ := htrow.cellsAt htcells h24
          have hs2 := hat2.isSome
          first | refine e_fl rfl rfl (fun hs_ => PF.mk rfl (v_cmptA rfl rfl rfl) hs_) ?_ | refine e_fl rfl rfl (fun hs_ => PF.mk rfl (v_cmpfA rfl rfl rfl) hs_) ?_ | refine e_fl rfl rfl (fun hs_ => PF.mk rfl (v_cmp rfl rfl rfl) hs_) ?_
          refine e_fl rfl rfl (fun hs_ => PF.mk rfl (v_move rfl) hs_) ?_
          first | refine e_fl rfl rfl (fun hs_ => PF.mkg rfl rfl rfl (v_move rfl) hs_) ?_ | refine e_fl rfl rfl (fun hs_ => PF.mks rfl (by intro c hc; cases hc) rfl rfl (by simp [undef]) hs_) ?_
          first | refine e_fl rfl rfl (fun hs_ => PF.mkg rfl rfl rfl (v_move rfl) hs_) ?_ | refine e_fl rfl rfl (fun hs_ => PF.mks rfl (by intro c hc; cases hc) rfl rfl (by simp [undef]) hs_) ?_
          first | refine e_fl rfl rfl (fun hs_ => PF.mkg rfl rfl rfl (v_indexA Try.underlying26 sz49 rfl rfl) hs_) ?_ | refine e_fl rfl rfl (fun hs_ => PF.mkg rfl rfl rfl (v_indexIA Try.underlying26 sz49 rfl rfl) hs_) ?_ | refine e_fl rfl rfl (fun hs_ => PF.mks rfl (by intro c hc; cases hc) rfl rfl (by simp [undef]) hs_) ?_
          first | refine e_fl rfl rfl (fun hs_ => PF.mkg rfl rfl rfl (v_loadI0 ty49 (hat2.mono hI0) rfl rfl rfl) hs_) ?_ | refine e_fl rfl rfl (fun hs_ => PF.mkg rfl rfl rfl (v_loadI ty49 (hat2.mono hI0) rfl rfl rfl) hs_) ?_ | refine e_fl rfl rfl (fun hs_ => PF.mks rfl (by intro c hc; cases hc) rfl rfl (by simp [undef]) hs_) ?_
          first | refine e_fl rfl rfl (fun hs_ => PF.mkg rfl rfl rfl (v_move rfl) hs_) ?_ | refine e_fl rfl rfl (fun hs_ => PF.mks rfl (by intro c hc; cases hc) rfl rfl (by simp [undef]) hs_) ?_
          first | refine e_fl rfl rfl (fun hs_ => PF.mkg rfl rfl rfl (v_move rfl) hs_) ?_ | refine e_fl rfl rfl (fun hs_ => PF.mks rfl (by intro c hc; cases hc) rfl rfl (by simp [undef]) hs_) ?_
          first | refine e_fl rfl rfl (fun hs_ => PF.mkg rfl rfl rfl (v_indexA Try.underlying26 sz49 rfl rfl) hs_) ?_ | refine e_fl rfl rfl (fun hs_ => PF.mkg rfl rfl rfl (v_indexIA Try.underlying26 sz49 rfl rfl) hs_) ?_ | refine e_fl rfl rfl (fun hs_ => PF.mks rfl (by intro c hc; cases hc) rfl rfl (by simp [undef]) hs_) ?_
          first | refine e_fl rfl rfl (fun hs_ => PF.mkg rfl rfl rfl (v_loadI0 ty49 (hat) rfl rfl rfl) hs_) ?_ | refine e_fl rfl rfl (fun hs_ => PF.mkg rfl rfl rfl (v_loadI ty49 (hat) rfl rfl rfl) hs_) ?_ | refine e_fl rfl rfl (fun hs_ => PF.mks rfl (by intro c hc; cases hc) rfl rfl (by simp [undef]) hs_) ?_
          by_cases h34 : t[(tidyGo [] (c.take k)).length] = c[k]
          · refine e_eff rfl (by intro cs b hc; cases hc) (by intro c hc; cases hc) ?_
            first
              | (refine op_want rfl rfl ?_
                 refine op_call pl30 rfl rfl ((Exact_does (x := t[(tidyGo [] (c.take k)).length]) (y := c[k]) ⟨ma, mc, na, nc, rfl, hml.mono Imm.leA, hmr.mono Imm.leA⟩ ⟨la, lc, ra, rc, rfl, hl.mono Imm.leA, hr.mono Imm.leA⟩ (hst.at h24).1 (hst.at h24).2 hsk.1 hsk.2)) Parts.none ?_
                 rintro v34 I34 _ hI34 ⟨rfl, rfl⟩
                 rw [exactL_iff.2 h34]
                 rw [if_neg (by rw [hta.2 ⟨h24, h34⟩]; simp)] at hsu
                 have hlu : (tidyGo [] (c.take (k + 1))).length = (tidyGo [] (c.take k)).length + 1 := by rw [hsu]; simp)
              | (refine op_skip rfl rfl (by simp [undef]) rfl ?_)
            refine ops_nil ?_
            refine e_next rfl side_allA ?_
            first | refine e_fl rfl rfl (fun hs_ => PF.mk rfl (v_pickt rfl rfl) hs_) ?_ | refine e_fl rfl rfl (fun hs_ => PF.mk rfl (v_pickf rfl rfl) hs_) ?_ | refine e_fl rfl rfl (fun hs_ => PF.mk rfl (v_pickb rfl rfl rfl) hs_) ?_
            refine e_done ?_
            refine post_next ?_
            refine code_cond_t rfl ?_
            refine code_seq ?_
            refine code_region ?_
            refine op_v (v_move rfl) rfl ?_
            refine op_v (v_addb (c := (((tidyGo [] (c.take k)).length + 1 : Nat) : Int)) rfl rfl (by omega) (by omega)) rfl ?_
            refine op_v (v_assign rfl) rfl ?_
            refine ops_nil ?_
            refine post_next ?_
            refine code_exit ?_
            refine post_exit_then ?_
            refine post_exit ?_
            refine post_next ?_
            refine code_region ?_
            refine op_v (v_move rfl) rfl ?_
            first | refine op_v (v_addb rfl rfl rfl (by omega)) rfl ?_ | refine op_v (v_add rfl rfl) rfl ?_
            refine op_v (v_assign rfl) rfl ?_
            refine ops_nil ?_
            refine post_again (c.length - (k + 1)) [(0, .slice ad c.length c0), (3, .slice td t.length tc), (4, .int .i64 (tidyGo [] (c.take (k + 1))).length), (5, .int .i64 (k + 1 : Nat))] (by omega) ⟨k + 1, rfl, hlt, rfl, Imm.leA, rfl⟩ ⟨rfl, rfl, by rw [hlu]; rfl, rfl, trivial⟩
          · refine e_eff rfl (by intro cs b hc; cases hc) (by intro c hc; cases hc) ?_
            first
              | (refine op_want rfl rfl ?_
                 refine op_call pl30 rfl rfl ((Exact_does (x := t[(tidyGo [] (c.take k)).length]) (y := c[k]) ⟨ma, mc, na, nc, rfl, hml.mono Imm.leA, hmr.mono Imm.leA⟩ ⟨la, lc, ra, rc, rfl, hl.mono Imm.leA, hr.mono Imm.leA⟩ (hst.at h24).1 (hst.at h24).2 hsk.1 hsk.2)) Parts.none ?_
                 rintro v34 I34 _ hI34 ⟨rfl, rfl⟩
                 rw [show exactL t[(tidyGo [] (c.take k)).length] c[k] = false from by cases h : exactL t[(tidyGo [] (c.take k)).length] c[k]; rfl; exact absurd (exactL_iff.1 h) h34])
              | (refine op_skip rfl rfl (by simp [undef]) rfl ?_)
            refine ops_nil ?_
            refine e_next rfl side_allA ?_
            first | refine e_fl rfl rfl (fun hs_ => PF.mk rfl (v_pickt rfl rfl) hs_) ?_ | refine e_fl rfl rfl (fun hs_ => PF.mk rfl (v_pickf rfl rfl) hs_) ?_ | refine e_fl rfl rfl (fun hs_ => PF.mk rfl (v_pickb rfl rfl rfl) hs_) ?_
            refine e_done ?_
            refine post_next ?_
            refine code_cond_f rfl ?_
            refine code_skip ?_
            have hgone : goneL (tidyGo [] (c.take k)) c[k] = true := by cases h : goneL (tidyGo [] (c.take k)) c[k]; exact absurd (hta.1 h).2 h34; rfl
            exact post_meet _ ⟨hgone, rfl, Imm.leA, rfl⟩ ⟨rfl, rfl, rfl, rfl, trivial⟩
        · first | refine e_fl rfl rfl (fun hs_ => PF.mk rfl (v_cmptA rfl rfl rfl) hs_) ?_ | refine e_fl rfl rfl (fun hs_ => PF.mk rfl (v_cmpfA rfl rfl rfl) hs_) ?_ | refine e_fl rfl rfl (fun hs_ => PF.mk rfl (v_cmp rfl rfl rfl) hs_) ?_
          refine e_fl rfl rfl (fun hs_ => PF.mk rfl (v_move rfl) hs_) ?_
          first | refine e_fl rfl rfl (fun hs_ => PF.mkg rfl rfl rfl (v_move rfl) hs_) ?_ | refine e_fl rfl rfl (fun hs_ => PF.mks rfl (by intro c hc; cases hc) rfl rfl (by simp [undef]) hs_) ?_
          first | refine e_fl rfl rfl (fun hs_ => PF.mkg rfl rfl rfl (v_move rfl) hs_) ?_ | refine e_fl rfl rfl (fun hs_ => PF.mks rfl (by intro c hc; cases hc) rfl rfl (by simp [undef]) hs_) ?_
          first | refine e_fl rfl rfl (fun hs_ => PF.mkg rfl rfl rfl (v_indexA Try.underlying26 sz49 rfl rfl) hs_) ?_ | refine e_fl rfl rfl (fun hs_ => PF.mkg rfl rfl rfl (v_indexIA Try.underlying26 sz49 rfl rfl) hs_) ?_ | refine e_fl rfl rfl (fun hs_ => PF.mks rfl (by intro c hc; cases hc) rfl rfl (by simp [undef]) hs_) ?_
          first | refine e_fl rfl rfl (fun hs_ => PF.mkg rfl rfl rfl (v_loadI0 ty49 (hat2.mono hI0) rfl rfl rfl) hs_) ?_ | refine e_fl rfl rfl (fun hs_ => PF.mkg rfl rfl rfl (v_loadI ty49 (hat2.mono hI0) rfl rfl rfl) hs_) ?_ | refine e_fl rfl rfl (fun hs_ => PF.mks rfl (by intro c hc; cases hc) rfl rfl (by simp [undef]) hs_) ?_
          first | refine e_fl rfl rfl (fun hs_ => PF.mkg rfl rfl rfl (v_move rfl) hs_) ?_ | refine e_fl rfl rfl (fun hs_ => PF.mks rfl (by intro c hc; cases hc) rfl rfl (by simp [undef]) hs_) ?_
          first | refine e_fl rfl rfl (fun hs_ => PF.mkg rfl rfl rfl (v_move rfl) hs_) ?_ | refine e_fl rfl rfl (fun hs_ => PF.mks rfl (by intro c hc; cases hc) rfl rfl (by simp [undef]) hs_) ?_
          first | refine e_fl rfl rfl (fun hs_ => PF.mkg rfl rfl rfl (v_indexA Try.underlying26 sz49 rfl rfl) hs_) ?_ | refine e_fl rfl rfl (fun hs_ => PF.mkg rfl rfl rfl (v_indexIA Try.underlying26 sz49 rfl rfl) hs_) ?_ | refine e_fl rfl rfl (fun hs_ => PF.mks rfl (by intro c hc; cases hc) rfl rfl (by simp [undef]) hs_) ?_
          first | refine e_fl rfl rfl (fun hs_ => PF.mkg rfl rfl rfl (v_loadI0 ty49 (hat) rfl rfl rfl) hs_) ?_ | refine e_fl rfl rfl (fun hs_ => PF.mkg rfl rfl rfl (v_loadI ty49 (hat) rfl rfl rfl) hs_) ?_ | refine e_fl rfl rfl (fun hs_ => PF.mks rfl (by intro c hc; cases hc) rfl rfl (by simp [undef]) hs_) ?_
          refine e_eff rfl (by intro cs b hc; cases hc) (by intro c hc; cases hc) ?_
          first
            | (refine op_want rfl rfl ?_
               refine op_call pl30 rfl rfl ((Exact_does (x := t[(tidyGo [] (c.take k)).length]) (y := c[k]) ⟨ma, mc, na, nc, rfl, hml.mono Imm.leA, hmr.mono Imm.leA⟩ ⟨la, lc, ra, rc, rfl, hl.mono Imm.leA, hr.mono Imm.leA⟩ (hst.at h24).1 (hst.at h24).2 hsk.1 hsk.2)) Parts.none ?_
               rintro v34 I34 _ hI34 ⟨rfl, rfl⟩)
            | (refine op_skip rfl rfl (by simp [undef]) rfl ?_)
          refine ops_nil ?_
          refine e_next rfl side_allA ?_
          first | refine e_fl rfl rfl (fun hs_ => PF.mk rfl (v_pickt rfl rfl) hs_) ?_ | refine e_fl rfl rfl (fun hs_ => PF.mk rfl (v_pickf rfl rfl) hs_) ?_ | refine e_fl rfl rfl (fun hs_ => PF.mk rfl (v_pickb rfl rfl rfl) hs_) ?_
          refine e_done ?_
          refine post_next ?_
          refine code_cond_f rfl ?_
          refine code_skip ?_
          have hgone : goneL (tidyGo [] (c.take k)) c[k] = true := by cases h : goneL (tidyGo [] (c.take k)) c[k]; exact absurd (hta.1 h).1 h24; rfl
          exact post_meet _ ⟨hgone, rfl, Imm.leA, rfl⟩ ⟨rfl, rfl, rfl, rfl, trivial⟩
      · rintro _ I2 _ ⟨hgone, rfl, hI2, rfl⟩
        rw [if_pos hgone] at hsu
        replace hat := hat.mono hI2
        replace hl := hl.mono hI2
        replace hr := hr.mono hI2
        refine code_seq ?_
        refine code_region ?_
        refine op_v (v_move rfl) rfl ?_
        refine op_v (v_move rfl) rfl ?_
        first | refine op_v (v_indexA Try.underlying26 sz49 rfl rfl) rfl ?_ | refine op_v (v_indexIA Try.underlying26 sz49 rfl rfl) rfl ?_
        first | refine op_v (v_fieldB 0 Try.underlying49 rfl rfl fz4 rfl) rfl ?_ | refine op_v (v_fieldI 0 Try.underlying49 rfl rfl fz4 rfl (by assumption)) rfl ?_ | refine op_v (v_field Try.underlying49 rfl fz4 rfl rfl) rfl ?_
        by_cases hn : c[k].neg = true
        · refine op_v (v_loadI (k := 0) (v := .bool true) ty4 hat rfl (by show some (Value.bool c[k].neg) = _; rw [hn]) rfl) rfl ?_
          refine op_v (v_move rfl) rfl ?_
          first
            | (refine op_want rfl rfl ?_
               refine op_v (v_move rfl) rfl ?_)
            | (refine op_skip rfl rfl (by simp [undef]) rfl ?_)
          first
            | (refine op_want rfl rfl ?_
               refine op_v (v_move rfl) rfl ?_)
            | (refine op_skip rfl rfl (by simp [undef]) rfl ?_)
          first
            | (refine op_want rfl rfl ?_
               first | refine op_v (v_indexA Try.underlying26 sz49 rfl rfl) rfl ?_ | refine op_v (v_indexIA Try.underlying26 sz49 rfl rfl) rfl ?_)
            | (refine op_skip rfl rfl (by simp [undef]) rfl ?_)
          first
            | (refine op_want rfl rfl ?_
               first | refine op_v (v_loadI0 ty49 (hat) rfl rfl rfl) rfl ?_ | refine op_v (v_loadI ty49 (hat) rfl rfl rfl) rfl ?_)
            | (refine op_skip rfl rfl (by simp [undef]) rfl ?_)
          first
            | (refine op_want rfl rfl ?_
               refine op_call pl31 rfl rfl ((LTrivial_does (x := c[k]) ⟨la, lc, ra, rc, rfl, hl.mono Imm.leA, hr.mono Imm.leA⟩ hsk.1 hsk.2)) Parts.none ?_
               rintro v48 I48 _ hI48 ⟨rfl, rfl⟩)
            | (refine op_skip rfl rfl (by simp [undef]) rfl ?_)
          first | refine op_v (v_pickt rfl rfl) rfl ?_ | refine op_v (v_pickf rfl rfl) rfl ?_ | refine op_v (v_pickb rfl rfl rfl) rfl ?_
          refine op_v (v_assign rfl) rfl ?_
          refine ops_nil ?_
          refine post_next ?_
          refine code_seq ?_
          refine code_seq ?_
          refine code_region ?_
          refine op_v (v_assign rfl) rfl ?_
          refine ops_nil ?_
          refine post_next ?_
          refine code_block ?_
          refine code_loop (fun m σ' I' δ' => ∃ j : Nat, m = (tidyGo [] (c.take k)).length - j ∧ j ≤ (tidyGo [] (c.take k)).length ∧ σ' = [(0, .slice ad c.length c0), (3, .slice td t.length tc), (4, .int .i64 (tidyGo [] (c.take k)).length), (5, .int .i64 k), (6, .bool ((t.take j).any (fun m => sameL m c[k]) || (c[k].neg && trivL c[k]))), (7, .int .i64 j)] ∧ I2.le I' ∧ δ' = []) (tidyGo [] (c.take k)).length [(0, .slice ad c.length c0), (3, .slice td t.length tc), (4, .int .i64 (tidyGo [] (c.take k)).length), (5, .int .i64 k), (6, .bool (c[k].neg && trivL c[k])), (7, .int .i64 (0 : Nat))] ⟨0, rfl, Nat.zero_le _, rfl, Imm.leA, rfl⟩ ⟨rfl, rfl, rfl, rfl, by first | (rw [hn]; rfl) | (rw [hn']; rfl), rfl, trivial⟩ ?_
          rintro m _ I3 _ ⟨j, rfl, hj, rfl, hI3, rfl⟩
          have hdl : (tidyGo [] (c.take k)).length ≤ t.length := by rw [hd]; simp
          refine code_seq ?_
          refine code_seq ?_
          refine code_region ?_
          refine op_v (v_move rfl) rfl ?_
          refine op_v (v_move rfl) rfl ?_
          by_cases h52 : j < (tidyGo [] (c.take k)).length
          · have hjt : j < t.length := by omega
            obtain ⟨vs3, ⟨ma, mc, na, nc, rfl, hml, hmr⟩, hat3⟩ := htrow.cellsAt htcells hjt
            replace hat3 := hat3.mono (show I14.le I3 from Imm.leA)
            have hs3 := hat3.isSome
            have htj := List.take_succ_eq_append_getElem hjt
            first | refine op_v (v_cmptA rfl rfl rfl) rfl ?_ | refine op_v (v_cmpfA rfl rfl rfl) rfl ?_ | refine op_v (v_cmp rfl rfl rfl) rfl ?_
            refine op_v (v_move rfl) rfl ?_
            first
              | (refine op_want rfl rfl ?_
                 refine op_v (v_move rfl) rfl ?_)
              | (refine op_skip rfl rfl (by simp [undef]) rfl ?_)
            first
              | (refine op_want rfl rfl ?_
                 refine op_v (v_move rfl) rfl ?_)
              | (refine op_skip rfl rfl (by simp [undef]) rfl ?_)
            first
              | (refine op_want rfl rfl ?_
                 refine op_v (v_len Try.underlying26 rfl) rfl ?_)
              | (refine op_skip rfl rfl (by simp [undef]) rfl ?_)
            first
              | (refine op_want rfl rfl ?_
                 refine op_v (v_cmpt rfl rfl rfl (by omega)) rfl ?_)
              | (refine op_skip rfl rfl (by simp [undef]) rfl ?_)
            first | refine op_v (v_pickt rfl rfl) rfl ?_ | refine op_v (v_pickf rfl rfl) rfl ?_ | refine op_v (v_pickb rfl rfl rfl) rfl ?_
            refine ops_nil ?_
            refine post_next ?_
            refine code_cond_t rfl ?_
            refine code_skip ?_
            refine post_next ?_
            refine code_seq ?_
            refine code_block ?_
            refine code_draw (.fl 0 (.fl 1 (.fl 2 (.fl 3 (.fl 4 (.fl 5 (.fl 6 (.fl 7 (.fl 8 (.fl 9 (.ef 10 (.fl 11 (.ef 12 .done))))))))))))) (fun _ => _) mixed (by kernel_rfl) (by kernel_rfl) (fun _ => (List.Sublist.refl _)) ?_
            refine e_fl rfl rfl (fun hs_ => PF.mk rfl (v_move rfl) hs_) ?_
            by_cases h62 : ((t.take j).any (fun m => sameL m c[k]) || (c[k].neg && trivL c[k])) = true
            · rw [h62]
              refine e_fl rfl rfl (fun hs_ => PF.mk rfl (v_move rfl) hs_) ?_
              first | refine e_fl rfl rfl (fun hs_ => PF.mkg rfl rfl rfl (v_move rfl) hs_) ?_ | refine e_fl rfl rfl (fun hs_ => PF.mks rfl (by intro c hc; cases hc) rfl rfl (by simp [undef]) hs_) ?_
              first | refine e_fl rfl rfl (fun hs_ => PF.mkg rfl rfl rfl (v_move rfl) hs_) ?_ | refine e_fl rfl rfl (fun hs_ => PF.mks rfl (by intro c hc; cases hc) rfl rfl (by simp [undef]) hs_) ?_
              first | refine e_fl rfl rfl (fun hs_ => PF.mkg rfl rfl rfl (v_indexA Try.underlying26 sz49 rfl rfl) hs_) ?_ | refine e_fl rfl rfl (fun hs_ => PF.mkg rfl rfl rfl (v_indexIA Try.underlying26 sz49 rfl rfl) hs_) ?_ | refine e_fl rfl rfl (fun hs_ => PF.mks rfl (by intro c hc; cases hc) rfl rfl (by simp [undef]) hs_) ?_
              first | refine e_fl rfl rfl (fun hs_ => PF.mkg rfl rfl rfl (v_loadI0 ty49 (hat3) rfl rfl rfl) hs_) ?_ | refine e_fl rfl rfl (fun hs_ => PF.mkg rfl rfl rfl (v_loadI ty49 (hat3) rfl rfl rfl) hs_) ?_ | refine e_fl rfl rfl (fun hs_ => PF.mks rfl (by intro c hc; cases hc) rfl rfl (by simp [undef]) hs_) ?_
              first | refine e_fl rfl rfl (fun hs_ => PF.mkg rfl rfl rfl (v_move rfl) hs_) ?_ | refine e_fl rfl rfl (fun hs_ => PF.mks rfl (by intro c hc; cases hc) rfl rfl (by simp [undef]) hs_) ?_
              first | refine e_fl rfl rfl (fun hs_ => PF.mkg rfl rfl rfl (v_move rfl) hs_) ?_ | refine e_fl rfl rfl (fun hs_ => PF.mks rfl (by intro c hc; cases hc) rfl rfl (by simp [undef]) hs_) ?_
              first | refine e_fl rfl rfl (fun hs_ => PF.mkg rfl rfl rfl (v_indexA Try.underlying26 sz49 rfl rfl) hs_) ?_ | refine e_fl rfl rfl (fun hs_ => PF.mkg rfl rfl rfl (v_indexIA Try.underlying26 sz49 rfl rfl) hs_) ?_ | refine e_fl rfl rfl (fun hs_ => PF.mks rfl (by intro c hc; cases hc) rfl rfl (by simp [undef]) hs_) ?_
              first | refine e_fl rfl rfl (fun hs_ => PF.mkg rfl rfl rfl (v_loadI0 ty49 (hat.mono hI3) rfl rfl rfl) hs_) ?_ | refine e_fl rfl rfl (fun hs_ => PF.mkg rfl rfl rfl (v_loadI ty49 (hat.mono hI3) rfl rfl rfl) hs_) ?_ | refine e_fl rfl rfl (fun hs_ => PF.mks rfl (by intro c hc; cases hc) rfl rfl (by simp [undef]) hs_) ?_
              refine e_eff rfl (by intro cs b hc; cases hc) (by intro c hc; cases hc) ?_
              first
                | (refine op_want rfl rfl ?_
                   refine op_call pl32 rfl rfl ((LSame_does (x := t[j]) (y := c[k]) ⟨ma, mc, na, nc, rfl, hml.mono Imm.leA, hmr.mono Imm.leA⟩ ⟨la, lc, ra, rc, rfl, hl.mono Imm.leA, hr.mono Imm.leA⟩ (hst.at hjt).1 (hst.at hjt).2 hsk.1 hsk.2)) Parts.none ?_
                   rintro v71 I71 _ hI71 ⟨rfl, rfl⟩)
                | (refine op_skip rfl rfl (by simp [undef]) rfl ?_)
              refine ops_nil ?_
              refine e_next rfl side_allA ?_
              first | refine e_fl rfl rfl (fun hs_ => PF.mk rfl (v_pickt rfl rfl) hs_) ?_ | refine e_fl rfl rfl (fun hs_ => PF.mk rfl (v_pickf rfl rfl) hs_) ?_ | refine e_fl rfl rfl (fun hs_ => PF.mk rfl (v_pickb rfl rfl rfl) hs_) ?_
              refine e_eff rfl (by intro cs b hc; cases hc) (by intro c hc; cases hc) ?_
              refine op_v (v_assign rfl) rfl ?_
              refine ops_nil ?_
              refine e_next rfl (side_nil (by kernel_rfl)) ?_
              refine e_done ?_
              refine post_out ?_
              refine post_next ?_
              refine code_region ?_
              refine op_v (v_move rfl) rfl ?_
              first | refine op_v (v_addb rfl rfl rfl (by omega)) rfl ?_ | refine op_v (v_add rfl rfl) rfl ?_
              refine op_v (v_assign rfl) rfl ?_
              refine ops_nil ?_
              refine post_again ((tidyGo [] (c.take k)).length - (j + 1)) [(0, .slice ad c.length c0), (3, .slice td t.length tc), (4, .int .i64 (tidyGo [] (c.take k)).length), (5, .int .i64 k), (6, .bool ((t.take (j + 1)).any (fun m => sameL m c[k]) || (c[k].neg && trivL c[k]))), (7, .int .i64 (j + 1 : Nat))] (by omega) ⟨j + 1, rfl, h52, rfl, Imm.leA, rfl⟩ ⟨rfl, rfl, rfl, rfl, by rw [show ((t.take (j + 1)).any (fun m => sameL m c[k]) || (c[k].neg && trivL c[k])) = true from by rw [htj, List.any_append]; revert h62; cases (t.take j).any (fun m => sameL m c[k]) <;> cases (c[k].neg && trivL c[k]) <;> simp]; rfl, rfl, trivial⟩
            · have h62' : ((t.take j).any (fun m => sameL m c[k]) || (c[k].neg && trivL c[k])) = false := by simpa using h62
              rw [h62']
              refine e_fl rfl rfl (fun hs_ => PF.mk rfl (v_move rfl) hs_) ?_
              first | refine e_fl rfl rfl (fun hs_ => PF.mkg rfl rfl rfl (v_move rfl) hs_) ?_ | refine e_fl rfl rfl (fun hs_ => PF.mks rfl (by intro c hc; cases hc) rfl rfl (by simp [undef]) hs_) ?_
              first | refine e_fl rfl rfl (fun hs_ => PF.mkg rfl rfl rfl (v_move rfl) hs_) ?_ | refine e_fl rfl rfl (fun hs_ => PF.mks rfl (by intro c hc; cases hc) rfl rfl (by simp [undef]) hs_) ?_
              first | refine e_fl rfl rfl (fun hs_ => PF.mkg rfl rfl rfl (v_indexA Try.underlying26 sz49 rfl rfl) hs_) ?_ | refine e_fl rfl rfl (fun hs_ => PF.mkg rfl rfl rfl (v_indexIA Try.underlying26 sz49 rfl rfl) hs_) ?_ | refine e_fl rfl rfl (fun hs_ => PF.mks rfl (by intro c hc; cases hc) rfl rfl (by simp [undef]) hs_) ?_
              first | refine e_fl rfl rfl (fun hs_ => PF.mkg rfl rfl rfl (v_loadI0 ty49 (hat3) rfl rfl rfl) hs_) ?_ | refine e_fl rfl rfl (fun hs_ => PF.mkg rfl rfl rfl (v_loadI ty49 (hat3) rfl rfl rfl) hs_) ?_ | refine e_fl rfl rfl (fun hs_ => PF.mks rfl (by intro c hc; cases hc) rfl rfl (by simp [undef]) hs_) ?_
              first | refine e_fl rfl rfl (fun hs_ => PF.mkg rfl rfl rfl (v_move rfl) hs_) ?_ | refine e_fl rfl rfl (fun hs_ => PF.mks rfl (by intro c hc; cases hc) rfl rfl (by simp [undef]) hs_) ?_
              first | refine e_fl rfl rfl (fun hs_ => PF.mkg rfl rfl rfl (v_move rfl) hs_) ?_ | refine e_fl rfl rfl (fun hs_ => PF.mks rfl (by intro c hc; cases hc) rfl rfl (by simp [undef]) hs_) ?_
              first | refine e_fl rfl rfl (fun hs_ => PF.mkg rfl rfl rfl (v_indexA Try.underlying26 sz49 rfl rfl) hs_) ?_ | refine e_fl rfl rfl (fun hs_ => PF.mkg rfl rfl rfl (v_indexIA Try.underlying26 sz49 rfl rfl) hs_) ?_ | refine e_fl rfl rfl (fun hs_ => PF.mks rfl (by intro c hc; cases hc) rfl rfl (by simp [undef]) hs_) ?_
              first | refine e_fl rfl rfl (fun hs_ => PF.mkg rfl rfl rfl (v_loadI0 ty49 (hat.mono hI3) rfl rfl rfl) hs_) ?_ | refine e_fl rfl rfl (fun hs_ => PF.mkg rfl rfl rfl (v_loadI ty49 (hat.mono hI3) rfl rfl rfl) hs_) ?_ | refine e_fl rfl rfl (fun hs_ => PF.mks rfl (by intro c hc; cases hc) rfl rfl (by simp [undef]) hs_) ?_
              refine e_eff rfl (by intro cs b hc; cases hc) (by intro c hc; cases hc) ?_
              first
                | (refine op_want rfl rfl ?_
                   refine op_call pl32 rfl rfl ((LSame_does (x := t[j]) (y := c[k]) ⟨ma, mc, na, nc, rfl, hml.mono Imm.leA, hmr.mono Imm.leA⟩ ⟨la, lc, ra, rc, rfl, hl.mono Imm.leA, hr.mono Imm.leA⟩ (hst.at hjt).1 (hst.at hjt).2 hsk.1 hsk.2)) Parts.none ?_
                   rintro v71 I71 _ hI71 ⟨rfl, rfl⟩)
                | (refine op_skip rfl rfl (by simp [undef]) rfl ?_)
              refine ops_nil ?_
              refine e_next rfl side_allA ?_
              first | refine e_fl rfl rfl (fun hs_ => PF.mk rfl (v_pickt rfl rfl) hs_) ?_ | refine e_fl rfl rfl (fun hs_ => PF.mk rfl (v_pickf rfl rfl) hs_) ?_ | refine e_fl rfl rfl (fun hs_ => PF.mk rfl (v_pickb rfl rfl rfl) hs_) ?_
              refine e_eff rfl (by intro cs b hc; cases hc) (by intro c hc; cases hc) ?_
              refine op_v (v_assign rfl) rfl ?_
              refine ops_nil ?_
              refine e_next rfl (side_nil (by kernel_rfl)) ?_
              refine e_done ?_
              refine post_out ?_
              refine post_next ?_
              refine code_region ?_
              refine op_v (v_move rfl) rfl ?_
              first | refine op_v (v_addb rfl rfl rfl (by omega)) rfl ?_ | refine op_v (v_add rfl rfl) rfl ?_
              refine op_v (v_assign rfl) rfl ?_
              refine ops_nil ?_
              refine post_again ((tidyGo [] (c.take k)).length - (j + 1)) [(0, .slice ad c.length c0), (3, .slice td t.length tc), (4, .int .i64 (tidyGo [] (c.take k)).length), (5, .int .i64 k), (6, .bool ((t.take (j + 1)).any (fun m => sameL m c[k]) || (c[k].neg && trivL c[k]))), (7, .int .i64 (j + 1 : Nat))] (by omega) ⟨j + 1, rfl, h52, rfl, Imm.leA, rfl⟩ ⟨rfl, rfl, rfl, rfl, by rw [show ((t.take (j + 1)).any (fun m => sameL m c[k]) || (c[k].neg && trivL c[k])) = sameL t[j] c[k] from by rw [htj, List.any_append]; revert h62'; cases (t.take j).any (fun m => sameL m c[k]) <;> cases (c[k].neg && trivL c[k]) <;> simp]; rfl, rfl, trivial⟩
          · have hje : j = (tidyGo [] (c.take k)).length := by omega
            subst hje
            have hall : ((t.take (tidyGo [] (c.take k)).length).any (fun m => sameL m c[k]) || (c[k].neg && trivL c[k])) = true := by rw [htk, any_same]; exact hgone
            rw [hall]
            first | refine op_v (v_cmptA rfl rfl rfl) rfl ?_ | refine op_v (v_cmpfA rfl rfl rfl) rfl ?_ | refine op_v (v_cmp rfl rfl rfl) rfl ?_
            refine op_v (v_move rfl) rfl ?_
            first
              | (refine op_want rfl rfl ?_
                 refine op_v (v_move rfl) rfl ?_)
              | (refine op_skip rfl rfl (by simp [undef]) rfl ?_)
            first
              | (refine op_want rfl rfl ?_
                 refine op_v (v_move rfl) rfl ?_)
              | (refine op_skip rfl rfl (by simp [undef]) rfl ?_)
            first
              | (refine op_want rfl rfl ?_
                 refine op_v (v_len Try.underlying26 rfl) rfl ?_)
              | (refine op_skip rfl rfl (by simp [undef]) rfl ?_)
            first
              | (refine op_want rfl rfl ?_
                 refine op_v (v_cmpt rfl rfl rfl (by omega)) rfl ?_)
              | (refine op_skip rfl rfl (by simp [undef]) rfl ?_)
            first | refine op_v (v_pickt rfl rfl) rfl ?_ | refine op_v (v_pickf rfl rfl) rfl ?_ | refine op_v (v_pickb rfl rfl rfl) rfl ?_
            refine ops_nil ?_
            refine post_next ?_
            refine code_cond_f rfl ?_
            refine code_exit ?_
            refine post_exit_then ?_
            refine post_exit_then ?_
            refine post_exit ?_
            refine post_next ?_
            refine code_seq ?_
            refine code_region ?_
            refine op_v (v_move rfl) rfl ?_
            refine op_v (v_not rfl) rfl ?_
            refine ops_nil ?_
            refine post_next ?_
            refine code_cond_f rfl ?_
            refine code_skip ?_
            refine post_out ?_
            refine post_next ?_
            refine code_region ?_
            refine op_v (v_move rfl) rfl ?_
            first | refine op_v (v_addb rfl rfl rfl (by omega)) rfl ?_ | refine op_v (v_add rfl rfl) rfl ?_
            refine op_v (v_assign rfl) rfl ?_
            refine ops_nil ?_
            refine post_again (c.length - (k + 1)) [(0, .slice ad c.length c0), (3, .slice td t.length tc), (4, .int .i64 (tidyGo [] (c.take (k + 1))).length), (5, .int .i64 (k + 1 : Nat))] (by omega) ⟨k + 1, rfl, hlt, rfl, Imm.leA, rfl⟩ ⟨rfl, rfl, by rw [hsu]; rfl, rfl, trivial⟩
        · have hn' : c[k].neg = false := by simpa using hn
          refine op_v (v_loadI (k := 0) (v := .bool false) ty4 hat rfl (by show some (Value.bool c[k].neg) = _; rw [hn']) rfl) rfl ?_
          refine op_v (v_move rfl) rfl ?_
          first
            | (refine op_want rfl rfl ?_
               refine op_v (v_move rfl) rfl ?_)
            | (refine op_skip rfl rfl (by simp [undef]) rfl ?_)
          first
            | (refine op_want rfl rfl ?_
               refine op_v (v_move rfl) rfl ?_)
            | (refine op_skip rfl rfl (by simp [undef]) rfl ?_)
          first
            | (refine op_want rfl rfl ?_
               first | refine op_v (v_indexA Try.underlying26 sz49 rfl rfl) rfl ?_ | refine op_v (v_indexIA Try.underlying26 sz49 rfl rfl) rfl ?_)
            | (refine op_skip rfl rfl (by simp [undef]) rfl ?_)
          first
            | (refine op_want rfl rfl ?_
               first | refine op_v (v_loadI0 ty49 (hat) rfl rfl rfl) rfl ?_ | refine op_v (v_loadI ty49 (hat) rfl rfl rfl) rfl ?_)
            | (refine op_skip rfl rfl (by simp [undef]) rfl ?_)
          first
            | (refine op_want rfl rfl ?_
               refine op_call pl31 rfl rfl ((LTrivial_does (x := c[k]) ⟨la, lc, ra, rc, rfl, hl.mono Imm.leA, hr.mono Imm.leA⟩ hsk.1 hsk.2)) Parts.none ?_
               rintro v48 I48 _ hI48 ⟨rfl, rfl⟩)
            | (refine op_skip rfl rfl (by simp [undef]) rfl ?_)
          first | refine op_v (v_pickt rfl rfl) rfl ?_ | refine op_v (v_pickf rfl rfl) rfl ?_ | refine op_v (v_pickb rfl rfl rfl) rfl ?_
          refine op_v (v_assign rfl) rfl ?_
          refine ops_nil ?_
          refine post_next ?_
          refine code_seq ?_
          refine code_seq ?_
          refine code_region ?_
          refine op_v (v_assign rfl) rfl ?_
          refine ops_nil ?_
          refine post_next ?_
          refine code_block ?_
          refine code_loop (fun m σ' I' δ' => ∃ j : Nat, m = (tidyGo [] (c.take k)).length - j ∧ j ≤ (tidyGo [] (c.take k)).length ∧ σ' = [(0, .slice ad c.length c0), (3, .slice td t.length tc), (4, .int .i64 (tidyGo [] (c.take k)).length), (5, .int .i64 k), (6, .bool ((t.take j).any (fun m => sameL m c[k]) || (c[k].neg && trivL c[k]))), (7, .int .i64 j)] ∧ I2.le I' ∧ δ' = []) (tidyGo [] (c.take k)).length [(0, .slice ad c.length c0), (3, .slice td t.length tc), (4, .int .i64 (tidyGo [] (c.take k)).length), (5, .int .i64 k), (6, .bool (c[k].neg && trivL c[k])), (7, .int .i64 (0 : Nat))] ⟨0, rfl, Nat.zero_le _, rfl, Imm.leA, rfl⟩ ⟨rfl, rfl, rfl, rfl, by first | (rw [hn]; rfl) | (rw [hn']; rfl), rfl, trivial⟩ ?_
          rintro m _ I3 _ ⟨j, rfl, hj, rfl, hI3, rfl⟩
          have hdl : (tidyGo [] (c.take k)).length ≤ t.length := by rw [hd]; simp
          refine code_seq ?_
          refine code_seq ?_
          refine code_region ?_
          refine op_v (v_move rfl) rfl ?_
          refine op_v (v_move rfl) rfl ?_
          by_cases h52 : j < (tidyGo [] (c.take k)).length
          · have hjt : j < t.length := by omega
            obtain ⟨vs3, ⟨ma, mc, na, nc, rfl, hml, hmr⟩, hat3⟩ := htrow.cellsAt htcells hjt
            replace hat3 := hat3.mono (show I14.le I3 from Imm.leA)
            have hs3 := hat3.isSome
            have htj := List.take_succ_eq_append_getElem hjt
            first | refine op_v (v_cmptA rfl rfl rfl) rfl ?_ | refine op_v (v_cmpfA rfl rfl rfl) rfl ?_ | refine op_v (v_cmp rfl rfl rfl) rfl ?_
            refine op_v (v_move rfl) rfl ?_
            first
              | (refine op_want rfl rfl ?_
                 refine op_v (v_move rfl) rfl ?_)
              | (refine op_skip rfl rfl (by simp [undef]) rfl ?_)
            first
              | (refine op_want rfl rfl ?_
                 refine op_v (v_move rfl) rfl ?_)
              | (refine op_skip rfl rfl (by simp [undef]) rfl ?_)
            first
              | (refine op_want rfl rfl ?_
                 refine op_v (v_len Try.underlying26 rfl) rfl ?_)
              | (refine op_skip rfl rfl (by simp [undef]) rfl ?_)
            first
              | (refine op_want rfl rfl ?_
                 refine op_v (v_cmpt rfl rfl rfl (by omega)) rfl ?_)
              | (refine op_skip rfl rfl (by simp [undef]) rfl ?_)
            first | refine op_v (v_pickt rfl rfl) rfl ?_ | refine op_v (v_pickf rfl rfl) rfl ?_ | refine op_v (v_pickb rfl rfl rfl) rfl ?_
            refine ops_nil ?_
            refine post_next ?_
            refine code_cond_t rfl ?_
            refine code_skip ?_
            refine post_next ?_
            refine code_seq ?_
            refine code_block ?_
            refine code_draw (.fl 0 (.fl 1 (.fl 2 (.fl 3 (.fl 4 (.fl 5 (.fl 6 (.fl 7 (.fl 8 (.fl 9 (.ef 10 (.fl 11 (.ef 12 .done))))))))))))) (fun _ => _) mixed (by kernel_rfl) (by kernel_rfl) (fun _ => (List.Sublist.refl _)) ?_
            refine e_fl rfl rfl (fun hs_ => PF.mk rfl (v_move rfl) hs_) ?_
            by_cases h62 : ((t.take j).any (fun m => sameL m c[k]) || (c[k].neg && trivL c[k])) = true
            · rw [h62]
              refine e_fl rfl rfl (fun hs_ => PF.mk rfl (v_move rfl) hs_) ?_
              first | refine e_fl rfl rfl (fun hs_ => PF.mkg rfl rfl rfl (v_move rfl) hs_) ?_ | refine e_fl rfl rfl (fun hs_ => PF.mks rfl (by intro c hc; cases hc) rfl rfl (by simp [undef]) hs_) ?_
              first | refine e_fl rfl rfl (fun hs_ => PF.mkg rfl rfl rfl (v_move rfl) hs_) ?_ | refine e_fl rfl rfl (fun hs_ => PF.mks rfl (by intro c hc; cases hc) rfl rfl (by simp [undef]) hs_) ?_
              first | refine e_fl rfl rfl (fun hs_ => PF.mkg rfl rfl rfl (v_indexA Try.underlying26 sz49 rfl rfl) hs_) ?_ | refine e_fl rfl rfl (fun hs_ => PF.mkg rfl rfl rfl (v_indexIA Try.underlying26 sz49 rfl rfl) hs_) ?_ | refine e_fl rfl rfl (fun hs_ => PF.mks rfl (by intro c hc; cases hc) rfl rfl (by simp [undef]) hs_) ?_
              first | refine e_fl rfl rfl (fun hs_ => PF.mkg rfl rfl rfl (v_loadI0 ty49 (hat3) rfl rfl rfl) hs_) ?_ | refine e_fl rfl rfl (fun hs_ => PF.mkg rfl rfl rfl (v_loadI ty49 (hat3) rfl rfl rfl) hs_) ?_ | refine e_fl rfl rfl (fun hs_ => PF.mks rfl (by intro c hc; cases hc) rfl rfl (by simp [undef]) hs_) ?_
              first | refine e_fl rfl rfl (fun hs_ => PF.mkg rfl rfl rfl (v_move rfl) hs_) ?_ | refine e_fl rfl rfl (fun hs_ => PF.mks rfl (by intro c hc; cases hc) rfl rfl (by simp [undef]) hs_) ?_
              first | refine e_fl rfl rfl (fun hs_ => PF.mkg rfl rfl rfl (v_move rfl) hs_) ?_ | refine e_fl rfl rfl (fun hs_ => PF.mks rfl (by intro c hc; cases hc) rfl rfl (by simp [undef]) hs_) ?_
              first | refine e_fl rfl rfl (fun hs_ => PF.mkg rfl rfl rfl (v_indexA Try.underlying26 sz49 rfl rfl) hs_) ?_ | refine e_fl rfl rfl (fun hs_ => PF.mkg rfl rfl rfl (v_indexIA Try.underlying26 sz49 rfl rfl) hs_) ?_ | refine e_fl rfl rfl (fun hs_ => PF.mks rfl (by intro c hc; cases hc) rfl rfl (by simp [undef]) hs_) ?_
              first | refine e_fl rfl rfl (fun hs_ => PF.mkg rfl rfl rfl (v_loadI0 ty49 (hat.mono hI3) rfl rfl rfl) hs_) ?_ | refine e_fl rfl rfl (fun hs_ => PF.mkg rfl rfl rfl (v_loadI ty49 (hat.mono hI3) rfl rfl rfl) hs_) ?_ | refine e_fl rfl rfl (fun hs_ => PF.mks rfl (by intro c hc; cases hc) rfl rfl (by simp [undef]) hs_) ?_
              refine e_eff rfl (by intro cs b hc; cases hc) (by intro c hc; cases hc) ?_
              first
                | (refine op_want rfl rfl ?_
                   refine op_call pl32 rfl rfl ((LSame_does (x := t[j]) (y := c[k]) ⟨ma, mc, na, nc, rfl, hml.mono Imm.leA, hmr.mono Imm.leA⟩ ⟨la, lc, ra, rc, rfl, hl.mono Imm.leA, hr.mono Imm.leA⟩ (hst.at hjt).1 (hst.at hjt).2 hsk.1 hsk.2)) Parts.none ?_
                   rintro v71 I71 _ hI71 ⟨rfl, rfl⟩)
                | (refine op_skip rfl rfl (by simp [undef]) rfl ?_)
              refine ops_nil ?_
              refine e_next rfl side_allA ?_
              first | refine e_fl rfl rfl (fun hs_ => PF.mk rfl (v_pickt rfl rfl) hs_) ?_ | refine e_fl rfl rfl (fun hs_ => PF.mk rfl (v_pickf rfl rfl) hs_) ?_ | refine e_fl rfl rfl (fun hs_ => PF.mk rfl (v_pickb rfl rfl rfl) hs_) ?_
              refine e_eff rfl (by intro cs b hc; cases hc) (by intro c hc; cases hc) ?_
              refine op_v (v_assign rfl) rfl ?_
              refine ops_nil ?_
              refine e_next rfl (side_nil (by kernel_rfl)) ?_
              refine e_done ?_
              refine post_out ?_
              refine post_next ?_
              refine code_region ?_
              refine op_v (v_move rfl) rfl ?_
              first | refine op_v (v_addb rfl rfl rfl (by omega)) rfl ?_ | refine op_v (v_add rfl rfl) rfl ?_
              refine op_v (v_assign rfl) rfl ?_
              refine ops_nil ?_
              refine post_again ((tidyGo [] (c.take k)).length - (j + 1)) [(0, .slice ad c.length c0), (3, .slice td t.length tc), (4, .int .i64 (tidyGo [] (c.take k)).length), (5, .int .i64 k), (6, .bool ((t.take (j + 1)).any (fun m => sameL m c[k]) || (c[k].neg && trivL c[k]))), (7, .int .i64 (j + 1 : Nat))] (by omega) ⟨j + 1, rfl, h52, rfl, Imm.leA, rfl⟩ ⟨rfl, rfl, rfl, rfl, by rw [show ((t.take (j + 1)).any (fun m => sameL m c[k]) || (c[k].neg && trivL c[k])) = true from by rw [htj, List.any_append]; revert h62; cases (t.take j).any (fun m => sameL m c[k]) <;> cases (c[k].neg && trivL c[k]) <;> simp]; rfl, rfl, trivial⟩
            · have h62' : ((t.take j).any (fun m => sameL m c[k]) || (c[k].neg && trivL c[k])) = false := by simpa using h62
              rw [h62']
              refine e_fl rfl rfl (fun hs_ => PF.mk rfl (v_move rfl) hs_) ?_
              first | refine e_fl rfl rfl (fun hs_ => PF.mkg rfl rfl rfl (v_move rfl) hs_) ?_ | refine e_fl rfl rfl (fun hs_ => PF.mks rfl (by intro c hc; cases hc) rfl rfl (by simp [undef]) hs_) ?_
              first | refine e_fl rfl rfl (fun hs_ => PF.mkg rfl rfl rfl (v_move rfl) hs_) ?_ | refine e_fl rfl rfl (fun hs_ => PF.mks rfl (by intro c hc; cases hc) rfl rfl (by simp [undef]) hs_) ?_
              first | refine e_fl rfl rfl (fun hs_ => PF.mkg rfl rfl rfl (v_indexA Try.underlying26 sz49 rfl rfl) hs_) ?_ | refine e_fl rfl rfl (fun hs_ => PF.mkg rfl rfl rfl (v_indexIA Try.underlying26 sz49 rfl rfl) hs_) ?_ | refine e_fl rfl rfl (fun hs_ => PF.mks rfl (by intro c hc; cases hc) rfl rfl (by simp [undef]) hs_) ?_
              first | refine e_fl rfl rfl (fun hs_ => PF.mkg rfl rfl rfl (v_loadI0 ty49 (hat3) rfl rfl rfl) hs_) ?_ | refine e_fl rfl rfl (fun hs_ => PF.mkg rfl rfl rfl (v_loadI ty49 (hat3) rfl rfl rfl) hs_) ?_ | refine e_fl rfl rfl (fun hs_ => PF.mks rfl (by intro c hc; cases hc) rfl rfl (by simp [undef]) hs_) ?_
              first | refine e_fl rfl rfl (fun hs_ => PF.mkg rfl rfl rfl (v_move rfl) hs_) ?_ | refine e_fl rfl rfl (fun hs_ => PF.mks rfl (by intro c hc; cases hc) rfl rfl (by simp [undef]) hs_) ?_
              first | refine e_fl rfl rfl (fun hs_ => PF.mkg rfl rfl rfl (v_move rfl) hs_) ?_ | refine e_fl rfl rfl (fun hs_ => PF.mks rfl (by intro c hc; cases hc) rfl rfl (by simp [undef]) hs_) ?_
              first | refine e_fl rfl rfl (fun hs_ => PF.mkg rfl rfl rfl (v_indexA Try.underlying26 sz49 rfl rfl) hs_) ?_ | refine e_fl rfl rfl (fun hs_ => PF.mkg rfl rfl rfl (v_indexIA Try.underlying26 sz49 rfl rfl) hs_) ?_ | refine e_fl rfl rfl (fun hs_ => PF.mks rfl (by intro c hc; cases hc) rfl rfl (by simp [undef]) hs_) ?_
              first | refine e_fl rfl rfl (fun hs_ => PF.mkg rfl rfl rfl (v_loadI0 ty49 (hat.mono hI3) rfl rfl rfl) hs_) ?_ | refine e_fl rfl rfl (fun hs_ => PF.mkg rfl rfl rfl (v_loadI ty49 (hat.mono hI3) rfl rfl rfl) hs_) ?_ | refine e_fl rfl rfl (fun hs_ => PF.mks rfl (by intro c hc; cases hc) rfl rfl (by simp [undef]) hs_) ?_
              refine e_eff rfl (by intro cs b hc; cases hc) (by intro c hc; cases hc) ?_
              first
                | (refine op_want rfl rfl ?_
                   refine op_call pl32 rfl rfl ((LSame_does (x := t[j]) (y := c[k]) ⟨ma, mc, na, nc, rfl, hml.mono Imm.leA, hmr.mono Imm.leA⟩ ⟨la, lc, ra, rc, rfl, hl.mono Imm.leA, hr.mono Imm.leA⟩ (hst.at hjt).1 (hst.at hjt).2 hsk.1 hsk.2)) Parts.none ?_
                   rintro v71 I71 _ hI71 ⟨rfl, rfl⟩)
                | (refine op_skip rfl rfl (by simp [undef]) rfl ?_)
              refine ops_nil ?_
              refine e_next rfl side_allA ?_
              first | refine e_fl rfl rfl (fun hs_ => PF.mk rfl (v_pickt rfl rfl) hs_) ?_ | refine e_fl rfl rfl (fun hs_ => PF.mk rfl (v_pickf rfl rfl) hs_) ?_ | refine e_fl rfl rfl (fun hs_ => PF.mk rfl (v_pickb rfl rfl rfl) hs_) ?_
              refine e_eff rfl (by intro cs b hc; cases hc) (by intro c hc; cases hc) ?_
              refine op_v (v_assign rfl) rfl ?_
              refine ops_nil ?_
              refine e_next rfl (side_nil (by kernel_rfl)) ?_
              refine e_done ?_
              refine post_out ?_
              refine post_next ?_
              refine code_region ?_
              refine op_v (v_move rfl) rfl ?_
              first | refine op_v (v_addb rfl rfl rfl (by omega)) rfl ?_ | refine op_v (v_add rfl rfl) rfl ?_
              refine op_v (v_assign rfl) rfl ?_
              refine ops_nil ?_
              refine post_again ((tidyGo [] (c.take k)).length - (j + 1)) [(0, .slice ad c.length c0), (3, .slice td t.length tc), (4, .int .i64 (tidyGo [] (c.take k)).length), (5, .int .i64 k), (6, .bool ((t.take (j + 1)).any (fun m => sameL m c[k]) || (c[k].neg && trivL c[k]))), (7, .int .i64 (j + 1 : Nat))] (by omega) ⟨j + 1, rfl, h52, rfl, Imm.leA, rfl⟩ ⟨rfl, rfl, rfl, rfl, by rw [show ((t.take (j + 1)).any (fun m => sameL m c[k]) || (c[k].neg && trivL c[k])) = sameL t[j] c[k] from by rw [htj, List.any_append]; revert h62'; cases (t.take j).any (fun m => sameL m c[k]) <;> cases (c[k].neg && trivL c[k]) <;> simp]; rfl, rfl, trivial⟩
          · have hje : j = (tidyGo [] (c.take k)).length := by omega
            subst hje
            have hall : ((t.take (tidyGo [] (c.take k)).length).any (fun m => sameL m c[k]) || (c[k].neg && trivL c[k])) = true := by rw [htk, any_same]; exact hgone
            rw [hall]
            first | refine op_v (v_cmptA rfl rfl rfl) rfl ?_ | refine op_v (v_cmpfA rfl rfl rfl) rfl ?_ | refine op_v (v_cmp rfl rfl rfl) rfl ?_
            refine op_v (v_move rfl) rfl ?_
            first
              | (refine op_want rfl rfl ?_
                 refine op_v (v_move rfl) rfl ?_)
              | (refine op_skip rfl rfl (by simp [undef]) rfl ?_)
            first
              | (refine op_want rfl rfl ?_
                 refine op_v (v_move rfl) rfl ?_)
              | (refine op_skip rfl rfl (by simp [undef]) rfl ?_)
            first
              | (refine op_want rfl rfl ?_
                 refine op_v (v_len Try.underlying26 rfl) rfl ?_)
              | (refine op_skip rfl rfl (by simp [undef]) rfl ?_)
            first
              | (refine op_want rfl rfl ?_
                 refine op_v (v_cmpt rfl rfl rfl (by omega)) rfl ?_)
              | (refine op_skip rfl rfl (by simp [undef]) rfl ?_)
            first | refine op_v (v_pickt rfl rfl) rfl ?_ | refine op_v (v_pickf rfl rfl) rfl ?_ | refine op_v (v_pickb rfl rfl rfl) rfl ?_
            refine ops_nil ?_
            refine post_next ?_
            refine code_cond_f rfl ?_
            refine code_exit ?_
            refine post_exit_then ?_
            refine post_exit_then ?_
            refine post_exit ?_
            refine post_next ?_
            refine code_seq ?_
            refine code_region ?_
            refine op_v (v_move rfl) rfl ?_
            refine op_v (v_not rfl) rfl ?_
            refine ops_nil ?_
            refine post_next ?_
            refine code_cond_f rfl ?_
            refine code_skip ?_
            refine post_out ?_
            refine post_next ?_
            refine code_region ?_
            refine op_v (v_move rfl) rfl ?_
            first | refine op_v (v_addb rfl rfl rfl (by omega)) rfl ?_ | refine op_v (v_add rfl rfl) rfl ?_
            refine op_v (v_assign rfl) rfl ?_
            refine ops_nil ?_
            refine post_again (c.length - (k + 1)) [(0, .slice ad c.length c0), (3, .slice td t.length tc), (4, .int .i64 (tidyGo [] (c.take (k + 1))).length), (5, .int .i64 (k + 1 : Nat))] (by omega) ⟨k + 1, rfl, hlt, rfl, Imm.leA, rfl⟩ ⟨rfl, rfl, by rw [hsu]; rfl, rfl, trivial⟩
    · have hge : k = c.length := by have h := hc1; simp at h; omega
      subst hge
      rw [tidyL_len_full, ← htd]
      refine code_exit ?_
      refine post_exit_then ?_
      refine post_exit_then ?_
      refine post_exit ?_
      refine post_next ?_
      refine code_seq ?_
      refine code_seq ?_
      refine code_region ?_
      refine op_v (v_assign rfl) rfl ?_
      refine ops_nil ?_
      refine post_next ?_
      refine code_block ?_
      refine code_loop (fun m σ' I' δ' => ∃ i : Nat, m = t.length - i ∧ i ≤ t.length ∧ σ' = [(3, .slice td t.length tc), (4, .int .i64 t.length), (8, .int .i64 i)] ∧ I0.le I' ∧ δ' = []) t.length [(3, .slice td t.length tc), (4, .int .i64 t.length), (8, .int .i64 (0 : Nat))] ⟨0, rfl, Nat.zero_le _, rfl, Imm.leA, rfl⟩ ⟨rfl, rfl, rfl, trivial⟩ ?_
      rintro m _ I4 _ ⟨i, rfl, hi, rfl, hI4, rfl⟩
      refine code_seq ?_
      refine code_seq ?_
      refine code_region ?_
      refine op_v (v_move rfl) rfl ?_
      refine op_v (v_move rfl) rfl ?_
      refine op_v (v_len Try.underlying26 rfl) rfl ?_
      first | refine op_v (v_cmptA rfl rfl rfl) rfl ?_ | refine op_v (v_cmpfA rfl rfl rfl) rfl ?_ | refine op_v (v_cmp rfl rfl rfl) rfl ?_
      refine ops_nil ?_
      refine post_next ?_
      refine code_cond rfl (fun hc5 => ?_) (fun hc5 => ?_)
      · have hit : i < t.length := by have h := hc5; simp at h; omega
        obtain ⟨vs4, ⟨ma, mc, na, nc, rfl, hml, hmr⟩, hat4⟩ := htrow.cellsAt htcells hit
        replace hat4 := hat4.mono (show I14.le I4 from Imm.leA)
        have hs4 := hat4.isSome
        refine code_skip ?_
        refine post_next ?_
        refine code_seq ?_
        refine code_block ?_
        refine code_seq ?_
        refine code_region ?_
        refine op_v (v_assign rfl) rfl ?_
        refine ops_nil ?_
        refine post_next ?_
        refine code_block ?_
        refine code_loop (fun m σ' I' δ' => ∃ j : Nat, m = i - j ∧ j ≤ i ∧ σ' = [(3, .slice td t.length tc), (4, .int .i64 t.length), (8, .int .i64 i), (9, .int .i64 j)] ∧ I4.le I' ∧ δ' = []) i [(3, .slice td t.length tc), (4, .int .i64 t.length), (8, .int .i64 i), (9, .int .i64 (0 : Nat))] ⟨0, rfl, Nat.zero_le _, rfl, Imm.leA, rfl⟩ ⟨rfl, rfl, rfl, rfl, trivial⟩ ?_
        rintro m _ I5 _ ⟨j, rfl, hj, rfl, hI5, rfl⟩
        refine code_seq ?_
        refine code_seq ?_
        refine code_region ?_
        refine op_v (v_move rfl) rfl ?_
        refine op_v (v_move rfl) rfl ?_
        first | refine op_v (v_cmptA rfl rfl rfl) rfl ?_ | refine op_v (v_cmpfA rfl rfl rfl) rfl ?_ | refine op_v (v_cmp rfl rfl rfl) rfl ?_
        refine ops_nil ?_
        refine post_next ?_
        refine code_cond rfl (fun hc6 => ?_) (fun hc6 => ?_)
        · have hji : j < i := by have h := hc6; simp at h; omega
          have hjt : j < t.length := by omega
          obtain ⟨vs5, ⟨oa, oc, pa', pc, rfl, hol, hor⟩, hat5⟩ := htrow.cellsAt htcells hjt
          have hs5 := hat5.isSome
          refine code_skip ?_
          refine post_next ?_
          refine code_seq ?_
          refine code_block ?_
          refine code_seq ?_
          refine code_draw (.fl 0 (.fl 1 (.fl 2 (.fl 3 (.fl 4 (.fl 5 (.fl 6 (.fl 7 (.ef 8 .done))))))))) (fun _ => _) mixed (by kernel_rfl) (by kernel_rfl) (fun _ => (List.Sublist.refl _)) ?_
          refine e_fl rfl rfl (fun hs_ => PF.mk rfl (v_move rfl) hs_) ?_
          refine e_fl rfl rfl (fun hs_ => PF.mk rfl (v_move rfl) hs_) ?_
          first | refine e_fl rfl rfl (fun hs_ => PF.mk rfl (v_indexA Try.underlying26 sz49 rfl rfl) hs_) ?_ | refine e_fl rfl rfl (fun hs_ => PF.mk rfl (v_indexIA Try.underlying26 sz49 rfl rfl) hs_) ?_
          first | refine e_fl rfl rfl (fun hs_ => PF.mk rfl (v_loadI0 ty49 (hat4.mono hI5) rfl rfl rfl) hs_) ?_ | refine e_fl rfl rfl (fun hs_ => PF.mk rfl (v_loadI ty49 (hat4.mono hI5) rfl rfl rfl) hs_) ?_
          refine e_fl rfl rfl (fun hs_ => PF.mk rfl (v_move rfl) hs_) ?_
          refine e_fl rfl rfl (fun hs_ => PF.mk rfl (v_move rfl) hs_) ?_
          first | refine e_fl rfl rfl (fun hs_ => PF.mk rfl (v_indexA Try.underlying26 sz49 rfl rfl) hs_) ?_ | refine e_fl rfl rfl (fun hs_ => PF.mk rfl (v_indexIA Try.underlying26 sz49 rfl rfl) hs_) ?_
          first | refine e_fl rfl rfl (fun hs_ => PF.mk rfl (v_loadI0 ty49 (hat5.mono Imm.leA) rfl rfl rfl) hs_) ?_ | refine e_fl rfl rfl (fun hs_ => PF.mk rfl (v_loadI ty49 (hat5.mono Imm.leA) rfl rfl rfl) hs_) ?_
          refine e_eff rfl (by intro cs b hc; cases hc) (by intro c hc; cases hc) ?_
          refine op_call pl32 rfl rfl ((LSame_does (x := t[i]) (y := t[j]) ⟨ma, mc, na, nc, rfl, hml.mono Imm.leA, hmr.mono Imm.leA⟩ ⟨oa, oc, pa', pc, rfl, hol.mono Imm.leA, hor.mono Imm.leA⟩ (hst.at hit).1 (hst.at hit).2 (hst.at hjt).1 (hst.at hjt).2)) Parts.none ?_
          rintro v94 I94 _ hI94 ⟨rfl, rfl⟩
          rw [hok.same hit hji]
          refine ops_nil ?_
          refine e_next rfl side_allA ?_
          refine e_done ?_
          refine post_next ?_
          refine code_cond_f rfl ?_
          refine code_skip ?_
          refine post_out ?_
          refine post_next ?_
          refine code_region ?_
          refine op_v (v_move rfl) rfl ?_
          first | refine op_v (v_addb rfl rfl rfl (by omega)) rfl ?_ | refine op_v (v_add rfl rfl) rfl ?_
          refine op_v (v_assign rfl) rfl ?_
          refine ops_nil ?_
          refine post_again (i - (j + 1)) [(3, .slice td t.length tc), (4, .int .i64 t.length), (8, .int .i64 i), (9, .int .i64 (j + 1 : Nat))] (by omega) ⟨j + 1, rfl, hji, rfl, Imm.leA, rfl⟩ ⟨rfl, rfl, rfl, rfl, trivial⟩
        · refine code_exit ?_
          refine post_exit_then ?_
          refine post_exit_then ?_
          refine post_exit ?_
          refine post_out ?_
          refine post_next ?_
          refine code_region ?_
          refine op_v (v_move rfl) rfl ?_
          first | refine op_v (v_addb rfl rfl rfl (by omega)) rfl ?_ | refine op_v (v_add rfl rfl) rfl ?_
          refine op_v (v_assign rfl) rfl ?_
          refine ops_nil ?_
          refine post_again (t.length - (i + 1)) [(3, .slice td t.length tc), (4, .int .i64 t.length), (8, .int .i64 (i + 1 : Nat))] (by omega) ⟨i + 1, rfl, hit, rfl, Imm.leA, rfl⟩ ⟨rfl, rfl, rfl, trivial⟩
      · have hie : i = t.length := by have h := hc5; simp at h; omega
        refine code_exit ?_
        refine post_exit_then ?_
        refine post_exit_then ?_
        refine post_exit ?_
        refine post_next ?_
        refine code_seq ?_
        refine code_region ?_
        refine op_call pl33 rfl rfl ((awake10_does _)) Parts.none ?_
        rintro v95 I95 _ hI95 ⟨rfl, rfl⟩
        refine op_v (v_move rfl) rfl ?_
        first
          | (refine op_want rfl rfl ?_
             refine op_v (v_move rfl) rfl ?_)
          | (refine op_skip rfl rfl (by simp [undef]) rfl ?_)
        first
          | (refine op_want rfl rfl ?_
             refine op_v (v_move rfl) rfl ?_)
          | (refine op_skip rfl rfl (by simp [undef]) rfl ?_)
        first
          | (refine op_want rfl rfl ?_
             refine op_v (v_len Try.underlying26 rfl) rfl ?_)
          | (refine op_skip rfl rfl (by simp [undef]) rfl ?_)
        first
          | (refine op_want rfl rfl ?_
             first | refine op_v (v_cmptA rfl rfl rfl) rfl ?_ | refine op_v (v_cmpfA rfl rfl rfl) rfl ?_ | refine op_v (v_cmp rfl rfl rfl) rfl ?_)
          | (refine op_skip rfl rfl (by simp [undef]) rfl ?_)
        first | refine op_v (v_pickt rfl rfl) rfl ?_ | refine op_v (v_pickf rfl rfl) rfl ?_ | refine op_v (v_pickb rfl rfl rfl) rfl ?_
        refine op_v (v_move rfl) rfl ?_
        first
          | (refine op_want rfl rfl ?_
             refine op_v (v_move rfl) rfl ?_)
          | (refine op_skip rfl rfl (by simp [undef]) rfl ?_)
        first
          | (refine op_want rfl rfl ?_
             refine op_call pl29 rfl rfl ((CTidy_does (ht14'.mono Imm.leA) hst)) Parts.none ?_
             rintro v104 I104 _ hI104 ⟨ht104, rfl⟩
             rw [hid] at ht104)
          | (refine op_skip rfl rfl (by simp [undef]) rfl ?_)
        first
          | (refine op_want rfl rfl ?_
             refine op_v (v_move rfl) rfl ?_)
          | (refine op_skip rfl rfl (by simp [undef]) rfl ?_)
        first
          | (refine op_want rfl rfl ?_
             refine op_call pl34 rfl rfl ((Exact10_does ht104 (ht14'.mono Imm.leA) hst hst)) Parts.none ?_
             rintro v106 I106 _ hI106 ⟨rfl, rfl⟩
             rw [decide_eq_true (rfl : t = t)])
          | (refine op_skip rfl rfl (by simp [undef]) rfl ?_)
        first | refine op_v (v_pickt rfl rfl) rfl ?_ | refine op_v (v_pickf rfl rfl) rfl ?_ | refine op_v (v_pickb rfl rfl rfl) rfl ?_
        refine op_v (v_assign rfl) rfl ?_
        refine ops_nil ?_
        refine post_next ?_
        refine code_ret ?_
        refine post_ret (rs := [.tmp 2]) rfl (List.Perm.refl _) (.cons (.tmp rfl) .nil) (List.nil_sublist _) ?_
        exact ⟨rfl, rfl⟩
  · have h12' : b11 = false := by simpa using h12
    subst h12'
    refine op_v (v_not rfl) rfl ?_
    refine ops_nil ?_
    refine post_next ?_
    refine code_cond_t rfl ?_
    refine code_seq ?_
    refine code_region ?_
    refine op_v (v_assign rfl) rfl ?_
    refine ops_nil ?_
    refine post_next ?_
    refine code_ret ?_
    refine post_ret_then ?_
    refine post_ret (rs := [.tmp 2]) rfl (List.Perm.refl _) (.cons (.tmp rfl) .nil) (List.nil_sublist _) ?_
    exact ⟨rfl, rfl⟩
end Go.Proofs.Ytdbadicpbmndbaa
