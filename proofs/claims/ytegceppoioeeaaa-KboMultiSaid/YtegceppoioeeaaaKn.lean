/- Walks: the statement on rows. -/
import Derived.Test.YtegceppoioeeaaaZ5
set_option linter.unusedVariables false
set_option linter.unusedSimpArgs false
namespace Go.Proofs.Ytegceppoioeeaaa
open Go Lg

theorem wrongG_sub {gs : List Sy} {a b : List T} (h : ∀ t ∈ a, t ∈ b) (k : wrongG gs b = 0) : wrongG gs a = 0 :=
  wrongG_ok.2 fun t ht => wrongG_ok.1 k t (h t ht)
theorem RepS.row {I : Imm} {v : Value} {ts : List T} (h : RepS I v ts) : ∃ (A : Option Addr) (c : Nat) (ss : Nat → Option Addr × Nat) (xs : List Value), v = .slice A ts.length c ∧ Cells I A xs ∧ RowT I xs ts ∧ ts.length ≤ 4398046511104 ∧ ∀ i (h : i < ts.length), At I A (i * 2) [.int .i64 ts[i].head, .slice (ss i).1 ts[i].args.length (ss i).2] ∧ RepT I (.agg #[.int .i64 ts[i].head, .slice (ss i).1 ts[i].args.length (ss i).2]) ts[i] := by
  obtain ⟨A, c, ss, L, hc, hb, hat2, hr, hsub0⟩ := h
  have hs := fun i (hi : i < ts.length) => RepT.mk _ _ (hr i hi) (hsub0 i hi)
  obtain ⟨h1, h2⟩ := RowT.of hat2 hs
  exact ⟨A, c, ss, _, rfl, h1, h2, hb, fun i hi => ⟨hat2 i hi, hs i hi⟩⟩

theorem KboMulti_does {I : Imm} {vg va vb vt : Value} {gs : List Sy} {a b : List T} {t : T} (hg : RepG I vg gs) (ha : RepS I va a) (hb : RepS I vb b) (hvt : RepT I vt t) :
    Does Try.prog 7 [vg, va, vb, vt] I [] (fun v I' δ' => v = .bool true ∧ δ' = []) := by
  obtain ⟨t0, t1, rfl, _⟩ := hvt.shape
  obtain ⟨aA, aC, aS, xa, rfl, hca, hra, hba, hea⟩ := ha.row
  obtain ⟨bA, bC, bS, xb, rfl, hcb, hrb, hbb, heb⟩ := hb.row
  have hl1 : (t :: a).length = 1 + a.length := by simp; omega
  have hl2 : (b ++ [t]).length = b.length + 1 := by simp
  refine Does.intro Try.func7 rfl Try.ntmps7 rfl fun w0 => ?_
  refine code_seq ?_
  refine code_region ?_
  refine o_box rfl rfl rfl (fun b7 => ?_)
  refine op_v (v_assign rfl) rfl ?_
  refine ops_nil ?_
  refine post_next ?_
  refine code_seq ?_
  refine code_seq ?_
  refine code_region ?_
  refine op_v (v_move rfl) rfl ?_
  refine op_v (v_move rfl) rfl ?_
  refine op_call pl28 rfl rfl ((few8_does (hg.mono (by repeat (first | exact Imm.le_refl _ | assumption | refine Imm.le_trans ?_ (by assumption)))) (ha.mono (by repeat (first | exact Imm.le_refl _ | assumption | refine Imm.le_trans ?_ (by assumption)))))) Parts.none ?_
  rintro v21 I21 _ hI21 ⟨⟨b21, rfl, hb21⟩, rfl⟩
  by_cases h22 : b21 = true
  · subst h22
    have hsa := hb21 rfl
    refine op_v (v_not rfl) rfl ?_
    refine op_v (v_move rfl) rfl ?_
    first
      | (refine op_want rfl rfl ?_
         refine op_v (v_move rfl) rfl ?_)
      | (refine op_skip rfl rfl (by simp [undef]) rfl ?_)
    first
      | (refine op_want rfl rfl ?_
         refine op_v (v_move rfl) rfl ?_)
      | (refine op_skip rfl rfl (by simp [undef]) rfl ?_)
    first
      | (refine op_want rfl rfl ?_
         refine op_call pl28 rfl rfl ((few8_does (hg.mono (by repeat (first | exact Imm.le_refl _ | assumption | refine Imm.le_trans ?_ (by assumption)))) (hb.mono (by repeat (first | exact Imm.le_refl _ | assumption | refine Imm.le_trans ?_ (by assumption)))))) Parts.none ?_
         rintro v26 I26 _ hI26 ⟨⟨b26, rfl, hb26⟩, rfl⟩)
      | (refine op_skip rfl rfl (by simp [undef]) rfl ?_)
    by_cases h27 : b26 = true
    · subst h27
      have hsb := hb26 rfl
      first
        | (refine op_want rfl rfl ?_
           refine op_v (v_not rfl) rfl ?_)
        | (refine op_skip rfl rfl (by simp [undef]) rfl ?_)
      first | refine op_v (v_pickt rfl rfl) rfl ?_ | refine op_v (v_pickf rfl rfl) rfl ?_ | refine op_v (v_pickb rfl rfl rfl) rfl ?_
      refine op_v (v_move rfl) rfl ?_
      first
        | (refine op_want rfl rfl ?_
           refine op_v (v_move rfl) rfl ?_)
        | (refine op_skip rfl rfl (by simp [undef]) rfl ?_)
      first
        | (refine op_want rfl rfl ?_
           refine op_v (v_load ty25 rfl (by repeat (first | exact Has.here | apply Has.there)) rfl) rfl ?_)
        | (refine op_skip rfl rfl (by simp [undef]) rfl ?_)
      first
        | (refine op_want rfl rfl ?_
           refine o_buildSlice (xs := [(Go.Operand.tmp 31)]) Try.underlying23 bs25 rfl rfl rfl rfl rfl (fun b32 => ?_)
           refine OpsJ.freezeRow Del.here ?_
           rintro I32 a32 c32 hI32 hq hc32 hl32 hcells32
           cases hq)
        | (refine op_skip rfl rfl (by simp [undef]) rfl ?_)
      first
        | (refine op_want rfl rfl ?_
           refine op_call pl28 rfl rfl ((few8_does (hg.mono (by repeat (first | exact Imm.le_refl _ | assumption | refine Imm.le_trans ?_ (by assumption)))) (RowT.repS (ts := [t]) rfl hcells32 (RowT.one (hvt.mono (by repeat (first | exact Imm.le_refl _ | assumption | refine Imm.le_trans ?_ (by assumption))))) hc32 (by simp)))) Parts.none ?_
           rintro v33 I33 _ hI33 ⟨⟨b33, rfl, hb33⟩, rfl⟩)
        | (refine op_skip rfl rfl (by simp [undef]) rfl ?_)
      by_cases h34 : b33 = true
      · subst h34
        have hst : t.size ≤ 500 := hb33 rfl t (by simp)
        first
          | (refine op_want rfl rfl ?_
             refine op_v (v_not rfl) rfl ?_)
          | (refine op_skip rfl rfl (by simp [undef]) rfl ?_)
        first | refine op_v (v_pickt rfl rfl) rfl ?_ | refine op_v (v_pickf rfl rfl) rfl ?_ | refine op_v (v_pickb rfl rfl rfl) rfl ?_
        refine op_v (v_move rfl) rfl ?_
        first
          | (refine op_want rfl rfl ?_
             refine op_v (v_move rfl) rfl ?_)
          | (refine op_skip rfl rfl (by simp [undef]) rfl ?_)
        first
          | (refine op_want rfl rfl ?_
             refine op_v (v_len Try.underlying23 rfl) rfl ?_)
          | (refine op_skip rfl rfl (by simp [undef]) rfl ?_)
        first
          | (refine op_want rfl rfl ?_
             refine op_v (v_move rfl) rfl ?_)
          | (refine op_skip rfl rfl (by simp [undef]) rfl ?_)
        first
          | (refine op_want rfl rfl ?_
             refine op_v (v_len Try.underlying23 rfl) rfl ?_)
          | (refine op_skip rfl rfl (by simp [undef]) rfl ?_)
        first
          | (refine op_want rfl rfl ?_
             first | refine op_v (v_addb rfl rfl rfl (by omega)) rfl ?_ | refine op_v (v_add rfl rfl) rfl ?_)
          | (refine op_skip rfl rfl (by simp [undef]) rfl ?_)
        by_cases h42 : 20 < a.length + b.length
        · first
            | (refine op_want rfl rfl ?_
               first | refine op_v (v_cmpt rfl rfl rfl (by first | omega | (simp; done) | (simp; omega))) rfl ?_ | refine op_v (v_cmpf rfl rfl rfl (by first | omega | (simp; done) | (simp; omega))) rfl ?_ | refine op_v (v_cmp rfl rfl rfl) rfl ?_)
            | (refine op_skip rfl rfl (by simp [undef]) rfl ?_)
          first | refine op_v (v_pickt rfl rfl) rfl ?_ | refine op_v (v_pickf rfl rfl) rfl ?_ | refine op_v (v_pickb rfl rfl rfl) rfl ?_
          refine ops_nil ?_
          refine post_next ?_
          refine code_cond_t rfl ?_
          refine code_seq ?_
          refine code_region ?_
          refine op_v (v_assign rfl) rfl ?_
          refine ops_nil ?_
          refine post_next ?_
          refine code_ret ?_
          refine post_ret_then ?_
          refine post_ret (rs := [.tmp 8]) rfl (List.Perm.refl _) (.cons (.tmp rfl) .nil) (List.nil_sublist _) ?_
          exact ⟨rfl, rfl⟩
        · have hla : a.length ≤ 20 := by omega
          have hlb : b.length ≤ 20 := by omega
          first
            | (refine op_want rfl rfl ?_
               first | refine op_v (v_cmpt rfl rfl rfl (by first | omega | (simp; done) | (simp; omega))) rfl ?_ | refine op_v (v_cmpf rfl rfl rfl (by first | omega | (simp; done) | (simp; omega))) rfl ?_ | refine op_v (v_cmp rfl rfl rfl) rfl ?_)
            | (refine op_skip rfl rfl (by simp [undef]) rfl ?_)
          first | refine op_v (v_pickt rfl rfl) rfl ?_ | refine op_v (v_pickf rfl rfl) rfl ?_ | refine op_v (v_pickb rfl rfl rfl) rfl ?_
          refine ops_nil ?_
          refine post_next ?_
          refine code_cond_f rfl ?_
          refine code_skip ?_
          refine post_next ?_
          refine code_seq ?_
          refine code_region ?_
          refine op_v (v_move rfl) rfl ?_
          refine op_v (v_move rfl) rfl ?_
          refine op_v (v_move rfl) rfl ?_
          refine op_call pl31 rfl rfl ((Multi_does (hg.mono (by repeat (first | exact Imm.le_refl _ | assumption | refine Imm.le_trans ?_ (by assumption)))) (ha.mono (by repeat (first | exact Imm.le_refl _ | assumption | refine Imm.le_trans ?_ (by assumption)))) (hb.mono (by repeat (first | exact Imm.le_refl _ | assumption | refine Imm.le_trans ?_ (by assumption)))) (fun x hx => by have := hsa x hx; omega) (fun x hx => by have := hsb x hx; omega) (by omega) (by omega))) Parts.none ?_
          rintro v48 I48 _ hI48 ⟨rfl, rfl⟩
          refine op_v (v_move rfl) rfl ?_
          refine op_v (v_extract rfl rfl) rfl ?_
          refine op_v (v_extract rfl rfl) rfl ?_
          refine op_v (v_assign rfl) rfl ?_
          refine op_v (v_assign rfl) rfl ?_
          refine ops_nil ?_
          refine post_next ?_
          refine code_seq ?_
          refine code_region ?_
          refine op_v (v_assign rfl) rfl ?_
          refine ops_nil ?_
          refine post_next ?_
          refine code_seq ?_
          refine code_region ?_
          refine op_v (v_move rfl) rfl ?_
          refine op_v (v_load ty25 rfl (by repeat (first | exact Has.here | apply Has.there)) rfl) rfl ?_
          refine o_buildSlice (xs := [(Go.Operand.tmp 52)]) Try.underlying23 bs25 rfl rfl rfl rfl rfl (fun b53 => ?_)
          refine OpsJ.freezeRow Del.here ?_
          rintro I53 a53 c53 hI53 hq hc53 hl53 hcells53
          cases hq
          refine OpsJ.view (View.nilRow 25 2) ?_
          refine o_append Try.underlying23 bs25 rfl rfl rfl (fun v' => by repeat (first | exact Swap.here | apply Swap.there)) (Src.ofI hcells53) rfl (RowT.one (hvt.mono (by repeat (first | exact Imm.le_refl _ | assumption | refine Imm.le_trans ?_ (by assumption))))).one1 (by omega) (by omega) (fun a54 c54 => ?_)
          refine op_v (v_assign rfl) rfl ?_
          refine ops_nil ?_
          refine post_next ?_
          refine code_seq ?_
          refine code_region ?_
          refine op_v (v_move rfl) rfl ?_
          refine op_v (v_move rfl) rfl ?_
          refine o_append Try.underlying23 bs25 rfl rfl rfl (fun v' => by repeat (first | exact Swap.here | apply Swap.there)) (Src.ofI (hca.mono (by repeat (first | exact Imm.le_refl _ | assumption | refine Imm.le_trans ?_ (by assumption))))) hra.1 hra.one1 (by omega) (by omega) (fun a57 c57 => ?_)
          refine op_v (v_assign rfl) rfl ?_
          refine ops_nil ?_
          refine post_next ?_
          refine code_seq ?_
          refine code_region ?_
          refine op_v (v_assign rfl) rfl ?_
          refine ops_nil ?_
          refine post_next ?_
          refine code_seq ?_
          refine code_region ?_
          refine op_v (v_move rfl) rfl ?_
          refine op_v (v_move rfl) rfl ?_
          refine OpsJ.view (View.nilRow 25 2) ?_
          refine o_append Try.underlying23 bs25 rfl rfl rfl (fun v' => by repeat (first | exact Swap.here | apply Swap.there)) (Src.ofI (hcb.mono (by repeat (first | exact Imm.le_refl _ | assumption | refine Imm.le_trans ?_ (by assumption))))) hrb.1 hrb.one1 (by omega) (by omega) (fun a60 c60 => ?_)
          refine op_v (v_assign rfl) rfl ?_
          refine ops_nil ?_
          refine post_next ?_
          refine code_seq ?_
          refine code_region ?_
          refine op_v (v_move rfl) rfl ?_
          refine op_v (v_load ty25 rfl (by repeat (first | exact Has.here | apply Has.there)) rfl) rfl ?_
          refine o_buildSlice (xs := [(Go.Operand.tmp 62)]) Try.underlying23 bs25 rfl rfl rfl rfl rfl (fun b63 => ?_)
          refine OpsJ.freezeRow Del.here ?_
          rintro I63 a63 c63 hI63 hq hc63 hl63 hcells63
          cases hq
          refine o_append Try.underlying23 bs25 rfl rfl rfl (fun v' => by repeat (first | exact Swap.here | apply Swap.there)) (Src.ofI hcells63) rfl (RowT.one (hvt.mono (by repeat (first | exact Imm.le_refl _ | assumption | refine Imm.le_trans ?_ (by assumption))))).one1 (by omega) (by omega) (fun a64 c64 => ?_)
          refine op_v (v_assign rfl) rfl ?_
          refine ops_nil ?_
          refine post_next ?_
          refine code_seq ?_
          refine code_region ?_
          refine op_v (v_move rfl) rfl ?_
          refine op_v (v_move rfl) rfl ?_
          refine op_v (v_move rfl) rfl ?_
          refine OpsJ.freezeRow Del.here ?_
          rintro I69 a69 c69 hI69 hq hc69 hl69 hcells69
          cases hq
          refine OpsJ.freezeRow Del.here ?_
          rintro I68 a68 c68 hI68 hq hc68 hl68 hcells68
          cases hq
          have hmore : RepS I68 _ (t :: a) := RowT.repS (by simp; omega) (hcells68.mono (by repeat (first | exact Imm.le_refl _ | assumption | refine Imm.le_trans ?_ (by assumption)))) ((RowT.one (hvt.mono (by repeat (first | exact Imm.le_refl _ | assumption | refine Imm.le_trans ?_ (by assumption))))).app (hra.mono (by repeat (first | exact Imm.le_refl _ | assumption | refine Imm.le_trans ?_ (by assumption))))) hc68 (by omega)
          have hother : RepS I68 _ (b ++ [t]) := RowT.repS (by simp) (hcells69.mono (by repeat (first | exact Imm.le_refl _ | assumption | refine Imm.le_trans ?_ (by assumption)))) ((hrb.mono (by repeat (first | exact Imm.le_refl _ | assumption | refine Imm.le_trans ?_ (by assumption)))).app (RowT.one (hvt.mono (by repeat (first | exact Imm.le_refl _ | assumption | refine Imm.le_trans ?_ (by assumption)))))) hc69 (by omega)
          have hsm : ∀ x ∈ t :: a, x.size ≤ 1000000000 := fun x hx => by { rcases List.mem_cons.1 hx with rfl | hx; omega; have := hsa x hx; omega }
          have hso : ∀ x ∈ b ++ [t], x.size ≤ 1000000000 := fun x hx => by { rcases List.mem_append.1 hx with hx | hx; (have := hsb x hx; omega); (simp at hx; subst hx; omega) }
          refine op_call pl31 rfl rfl ((Multi_does (hg.mono (by repeat (first | exact Imm.le_refl _ | assumption | refine Imm.le_trans ?_ (by assumption)))) (hmore.mono (by repeat (first | exact Imm.le_refl _ | assumption | refine Imm.le_trans ?_ (by assumption)))) (hother.mono (by repeat (first | exact Imm.le_refl _ | assumption | refine Imm.le_trans ?_ (by assumption)))) hsm hso (by omega) (by omega))) Parts.none ?_
          rintro v69 I70 _ hI70 ⟨rfl, rfl⟩
          refine op_v (v_move rfl) rfl ?_
          refine op_v (v_extract rfl rfl) rfl ?_
          refine op_v (v_extract rfl rfl) rfl ?_
          refine op_v (v_assign rfl) rfl ?_
          refine op_v (v_assign rfl) rfl ?_
          refine ops_nil ?_
          refine post_next ?_
          refine code_seq ?_
          refine code_region ?_
          refine op_v (v_move rfl) rfl ?_
          refine op_v (v_move rfl) rfl ?_
          refine op_v (v_move rfl) rfl ?_
          refine op_call pl31 rfl rfl ((Multi_does (hg.mono (by repeat (first | exact Imm.le_refl _ | assumption | refine Imm.le_trans ?_ (by assumption)))) (hmore.mono (by repeat (first | exact Imm.le_refl _ | assumption | refine Imm.le_trans ?_ (by assumption)))) (ha.mono (by repeat (first | exact Imm.le_refl _ | assumption | refine Imm.le_trans ?_ (by assumption)))) hsm (fun x hx => by have := hsa x hx; omega) (by omega) (by omega))) Parts.none ?_
          rintro v76 I76 _ hI76 ⟨rfl, rfl⟩
          refine op_v (v_move rfl) rfl ?_
          refine op_v (v_extract rfl rfl) rfl ?_
          refine op_v (v_extract rfl rfl) rfl ?_
          refine op_v (v_assign rfl) rfl ?_
          refine op_v (v_assign rfl) rfl ?_
          refine ops_nil ?_
          refine post_next ?_
          refine code_seq ?_
          refine code_seq ?_
          refine code_region ?_
          refine op_v (v_move rfl) rfl ?_
          by_cases h80 : wrongG gs ((t :: a) ++ (b ++ [t])) ≠ 0
          · first | refine op_v (v_cmpt rfl rfl rfl (by first | omega | (simp; done) | (simp; omega))) rfl ?_ | refine op_v (v_cmpf rfl rfl rfl (by first | omega | (simp; done) | (simp; omega))) rfl ?_ | refine op_v (v_cmp rfl rfl rfl) rfl ?_
            refine op_v (v_move rfl) rfl ?_
            first
              | (refine op_want rfl rfl ?_
                 refine op_v (v_move rfl) rfl ?_)
              | (refine op_skip rfl rfl (by simp [undef]) rfl ?_)
            first
              | (refine op_want rfl rfl ?_
                 first | refine op_v (v_cmpt rfl rfl rfl (by first | omega | (simp; done) | (simp; omega))) rfl ?_ | refine op_v (v_cmpf rfl rfl rfl (by first | omega | (simp; done) | (simp; omega))) rfl ?_ | refine op_v (v_cmp rfl rfl rfl) rfl ?_)
              | (refine op_skip rfl rfl (by simp [undef]) rfl ?_)
            first | refine op_v (v_pickt rfl rfl) rfl ?_ | refine op_v (v_pickf rfl rfl) rfl ?_ | refine op_v (v_pickb rfl rfl rfl) rfl ?_
            refine op_v (v_move rfl) rfl ?_
            first
              | (refine op_want rfl rfl ?_
                 refine op_v (v_move rfl) rfl ?_)
              | (refine op_skip rfl rfl (by simp [undef]) rfl ?_)
            first
              | (refine op_want rfl rfl ?_
                 first | refine op_v (v_cmpt rfl rfl rfl (by first | omega | (simp; done) | (simp; omega))) rfl ?_ | refine op_v (v_cmpf rfl rfl rfl (by first | omega | (simp; done) | (simp; omega))) rfl ?_ | refine op_v (v_cmp rfl rfl rfl) rfl ?_)
              | (refine op_skip rfl rfl (by simp [undef]) rfl ?_)
            first | refine op_v (v_pickt rfl rfl) rfl ?_ | refine op_v (v_pickf rfl rfl) rfl ?_ | refine op_v (v_pickb rfl rfl rfl) rfl ?_
            refine ops_nil ?_
            refine post_next ?_
            refine code_cond_t rfl ?_
            refine code_seq ?_
            refine code_region ?_
            refine op_call pl30 rfl rfl ((awake8_does _)) Parts.none ?_
            rintro v89 I89 _ hI89 ⟨rfl, rfl⟩
            refine op_v (v_move rfl) rfl ?_
            first
              | (refine op_want rfl rfl ?_
                 refine op_v (v_move rfl) rfl ?_)
              | (refine op_skip rfl rfl (by simp [undef]) rfl ?_)
            by_cases h92 : wrongG gs (a ++ b) = 0
            · first
                | (refine op_want rfl rfl ?_
                   first | refine op_v (v_cmpt rfl rfl rfl (by first | omega | (simp; done) | (simp; omega))) rfl ?_ | refine op_v (v_cmpf rfl rfl rfl (by first | omega | (simp; done) | (simp; omega))) rfl ?_ | refine op_v (v_cmp rfl rfl rfl) rfl ?_)
                | (refine op_skip rfl rfl (by simp [undef]) rfl ?_)
              first
                | (refine op_want rfl rfl ?_
                   refine op_v (v_move rfl) rfl ?_)
                | (refine op_skip rfl rfl (by simp [undef]) rfl ?_)
              first
                | (refine op_want rfl rfl ?_
                   refine op_v (v_move rfl) rfl ?_)
                | (refine op_skip rfl rfl (by simp [undef]) rfl ?_)
              first
                | (refine op_want rfl rfl ?_
                   first | refine op_v (v_cmpt rfl rfl rfl (by first | omega | (simp; done) | (simp; omega))) rfl ?_ | refine op_v (v_cmpf rfl rfl rfl (by first | omega | (simp; done) | (simp; omega))) rfl ?_ | refine op_v (v_cmp rfl rfl rfl) rfl ?_)
                | (refine op_skip rfl rfl (by simp [undef]) rfl ?_)
              first
                | (refine op_want rfl rfl ?_
                   first | refine op_v (v_pickt rfl rfl) rfl ?_ | refine op_v (v_pickf rfl rfl) rfl ?_ | refine op_v (v_pickb rfl rfl rfl) rfl ?_)
                | (refine op_skip rfl rfl (by simp [undef]) rfl ?_)
              first | refine op_v (v_pickt rfl rfl) rfl ?_ | refine op_v (v_pickf rfl rfl) rfl ?_ | refine op_v (v_pickb rfl rfl rfl) rfl ?_
              refine op_v (v_assign rfl) rfl ?_
              refine ops_nil ?_
              refine post_next ?_
              refine code_ret ?_
              refine post_ret_then ?_
              refine post_ret (rs := [.tmp 8]) rfl (List.Perm.refl _) (.cons (.tmp rfl) .nil) (List.nil_sublist _) ?_
              exact ⟨rfl, rfl⟩
            · first
                | (refine op_want rfl rfl ?_
                   first | refine op_v (v_cmpt rfl rfl rfl (by first | omega | (simp; done) | (simp; omega))) rfl ?_ | refine op_v (v_cmpf rfl rfl rfl (by first | omega | (simp; done) | (simp; omega))) rfl ?_ | refine op_v (v_cmp rfl rfl rfl) rfl ?_)
                | (refine op_skip rfl rfl (by simp [undef]) rfl ?_)
              first
                | (refine op_want rfl rfl ?_
                   refine op_v (v_move rfl) rfl ?_)
                | (refine op_skip rfl rfl (by simp [undef]) rfl ?_)
              first
                | (refine op_want rfl rfl ?_
                   refine op_v (v_move rfl) rfl ?_)
                | (refine op_skip rfl rfl (by simp [undef]) rfl ?_)
              first
                | (refine op_want rfl rfl ?_
                   first | refine op_v (v_cmpt rfl rfl rfl (by first | omega | (simp; done) | (simp; omega))) rfl ?_ | refine op_v (v_cmpf rfl rfl rfl (by first | omega | (simp; done) | (simp; omega))) rfl ?_ | refine op_v (v_cmp rfl rfl rfl) rfl ?_)
                | (refine op_skip rfl rfl (by simp [undef]) rfl ?_)
              first
                | (refine op_want rfl rfl ?_
                   first | refine op_v (v_pickt rfl rfl) rfl ?_ | refine op_v (v_pickf rfl rfl) rfl ?_ | refine op_v (v_pickb rfl rfl rfl) rfl ?_)
                | (refine op_skip rfl rfl (by simp [undef]) rfl ?_)
              first | refine op_v (v_pickt rfl rfl) rfl ?_ | refine op_v (v_pickf rfl rfl) rfl ?_ | refine op_v (v_pickb rfl rfl rfl) rfl ?_
              refine op_v (v_assign rfl) rfl ?_
              refine ops_nil ?_
              refine post_next ?_
              refine code_ret ?_
              refine post_ret_then ?_
              refine post_ret (rs := [.tmp 8]) rfl (List.Perm.refl _) (.cons (.tmp rfl) .nil) (List.nil_sublist _) ?_
              exact ⟨rfl, rfl⟩
          · have e2 : wrongG gs (a ++ b) = 0 := wrongG_sub (b := (t :: a) ++ (b ++ [t])) (fun x hx => by rcases List.mem_append.1 hx with h | h <;> simp [h]) (by omega)
            first | refine op_v (v_cmpt rfl rfl rfl (by first | omega | (simp; done) | (simp; omega))) rfl ?_ | refine op_v (v_cmpf rfl rfl rfl (by first | omega | (simp; done) | (simp; omega))) rfl ?_ | refine op_v (v_cmp rfl rfl rfl) rfl ?_
            refine op_v (v_move rfl) rfl ?_
            first
              | (refine op_want rfl rfl ?_
                 refine op_v (v_move rfl) rfl ?_)
              | (refine op_skip rfl rfl (by simp [undef]) rfl ?_)
            first
              | (refine op_want rfl rfl ?_
                 first | refine op_v (v_cmpt rfl rfl rfl (by first | omega | (simp; done) | (simp; omega))) rfl ?_ | refine op_v (v_cmpf rfl rfl rfl (by first | omega | (simp; done) | (simp; omega))) rfl ?_ | refine op_v (v_cmp rfl rfl rfl) rfl ?_)
              | (refine op_skip rfl rfl (by simp [undef]) rfl ?_)
            first | refine op_v (v_pickt rfl rfl) rfl ?_ | refine op_v (v_pickf rfl rfl) rfl ?_ | refine op_v (v_pickb rfl rfl rfl) rfl ?_
            refine op_v (v_move rfl) rfl ?_
            first
              | (refine op_want rfl rfl ?_
                 refine op_v (v_move rfl) rfl ?_)
              | (refine op_skip rfl rfl (by simp [undef]) rfl ?_)
            by_cases h87 : wrongG gs ((t :: a) ++ a) ≠ 0
            · first
                | (refine op_want rfl rfl ?_
                   first | refine op_v (v_cmpt rfl rfl rfl (by first | omega | (simp; done) | (simp; omega))) rfl ?_ | refine op_v (v_cmpf rfl rfl rfl (by first | omega | (simp; done) | (simp; omega))) rfl ?_ | refine op_v (v_cmp rfl rfl rfl) rfl ?_)
                | (refine op_skip rfl rfl (by simp [undef]) rfl ?_)
              first | refine op_v (v_pickt rfl rfl) rfl ?_ | refine op_v (v_pickf rfl rfl) rfl ?_ | refine op_v (v_pickb rfl rfl rfl) rfl ?_
              refine ops_nil ?_
              refine post_next ?_
              refine code_cond_t rfl ?_
              refine code_seq ?_
              refine code_region ?_
              refine op_call pl30 rfl rfl ((awake8_does _)) Parts.none ?_
              rintro v89 I89 _ hI89 ⟨rfl, rfl⟩
              refine op_v (v_move rfl) rfl ?_
              first
                | (refine op_want rfl rfl ?_
                   refine op_v (v_move rfl) rfl ?_)
                | (refine op_skip rfl rfl (by simp [undef]) rfl ?_)
              first
                | (refine op_want rfl rfl ?_
                   first | refine op_v (v_cmpt rfl rfl rfl (by first | omega | (simp; done) | (simp; omega))) rfl ?_ | refine op_v (v_cmpf rfl rfl rfl (by first | omega | (simp; done) | (simp; omega))) rfl ?_ | refine op_v (v_cmp rfl rfl rfl) rfl ?_)
                | (refine op_skip rfl rfl (by simp [undef]) rfl ?_)
              first
                | (refine op_want rfl rfl ?_
                   refine op_v (v_move rfl) rfl ?_)
                | (refine op_skip rfl rfl (by simp [undef]) rfl ?_)
              first
                | (refine op_want rfl rfl ?_
                   refine op_v (v_move rfl) rfl ?_)
                | (refine op_skip rfl rfl (by simp [undef]) rfl ?_)
              first
                | (refine op_want rfl rfl ?_
                   first | refine op_v (v_cmpt rfl rfl rfl (by first | omega | (simp; done) | (simp; omega))) rfl ?_ | refine op_v (v_cmpf rfl rfl rfl (by first | omega | (simp; done) | (simp; omega))) rfl ?_ | refine op_v (v_cmp rfl rfl rfl) rfl ?_)
                | (refine op_skip rfl rfl (by simp [undef]) rfl ?_)
              first
                | (refine op_want rfl rfl ?_
                   first | refine op_v (v_pickt rfl rfl) rfl ?_ | refine op_v (v_pickf rfl rfl) rfl ?_ | refine op_v (v_pickb rfl rfl rfl) rfl ?_)
                | (refine op_skip rfl rfl (by simp [undef]) rfl ?_)
              first | refine op_v (v_pickt rfl rfl) rfl ?_ | refine op_v (v_pickf rfl rfl) rfl ?_ | refine op_v (v_pickb rfl rfl rfl) rfl ?_
              refine op_v (v_assign rfl) rfl ?_
              refine ops_nil ?_
              refine post_next ?_
              refine code_ret ?_
              refine post_ret_then ?_
              refine post_ret (rs := [.tmp 8]) rfl (List.Perm.refl _) (.cons (.tmp rfl) .nil) (List.nil_sublist _) ?_
              exact ⟨rfl, rfl⟩
            · have e1 : wrongG gs ((t :: a) ++ (b ++ [t])) = 0 := by omega
              have e3 : wrongG gs ((t :: a) ++ a) = 0 := by omega
              rw [if_pos e1, if_pos e2, if_pos e3, mulG_both, mulG_more]
              first
                | (refine op_want rfl rfl ?_
                   first | refine op_v (v_cmpt rfl rfl rfl (by first | omega | (simp; done) | (simp; omega))) rfl ?_ | refine op_v (v_cmpf rfl rfl rfl (by first | omega | (simp; done) | (simp; omega))) rfl ?_ | refine op_v (v_cmp rfl rfl rfl) rfl ?_)
                | (refine op_skip rfl rfl (by simp [undef]) rfl ?_)
              first | refine op_v (v_pickt rfl rfl) rfl ?_ | refine op_v (v_pickf rfl rfl) rfl ?_ | refine op_v (v_pickb rfl rfl rfl) rfl ?_
              refine ops_nil ?_
              refine post_next ?_
              refine code_cond_f rfl ?_
              refine code_skip ?_
              refine post_next ?_
              refine code_seq ?_
              refine code_seq ?_
              refine code_region ?_
              refine op_v (v_move rfl) rfl ?_
              refine op_v (v_len Try.underlying23 rfl) rfl ?_
              by_cases h100 : a.length = 1
              · first | refine op_v (v_cmpt rfl rfl rfl (by first | omega | (simp; done) | (simp; omega))) rfl ?_ | refine op_v (v_cmpf rfl rfl rfl (by first | omega | (simp; done) | (simp; omega))) rfl ?_ | refine op_v (v_cmp rfl rfl rfl) rfl ?_
                refine op_v (v_move rfl) rfl ?_
                first
                  | (refine op_want rfl rfl ?_
                     refine op_v (v_move rfl) rfl ?_)
                  | (refine op_skip rfl rfl (by simp [undef]) rfl ?_)
                first
                  | (refine op_want rfl rfl ?_
                     refine op_v (v_len Try.underlying23 rfl) rfl ?_)
                  | (refine op_skip rfl rfl (by simp [undef]) rfl ?_)
                by_cases h104 : b.length = 1
                · obtain ⟨x, rfl⟩ := List.length_eq_one_iff.1 h100
                  obtain ⟨y, rfl⟩ := List.length_eq_one_iff.1 h104
                  obtain ⟨hx1, hx2⟩ := hea 0 (by simp)
                  obtain ⟨hy1, hy2⟩ := heb 0 (by simp)
                  have hoo := wrongG_ok.1 e2
                  rw [mulG_one (hoo x (by simp)) (hoo y (by simp))]
                  have hx3 : RepT I (.agg #[.int .i64 x.head, .slice (aS 0).1 x.args.length (aS 0).2]) x := hx2
                  have hy3 : RepT I (.agg #[.int .i64 y.head, .slice (bS 0).1 y.args.length (bS 0).2]) y := hy2
                  have hsA := hx1.isSome
                  have hsB := hy1.isSome
                  first
                    | (refine op_want rfl rfl ?_
                       first | refine op_v (v_cmpt rfl rfl rfl (by first | omega | (simp; done) | (simp; omega))) rfl ?_ | refine op_v (v_cmpf rfl rfl rfl (by first | omega | (simp; done) | (simp; omega))) rfl ?_ | refine op_v (v_cmp rfl rfl rfl) rfl ?_)
                    | (refine op_skip rfl rfl (by simp [undef]) rfl ?_)
                  first | refine op_v (v_pickt rfl rfl) rfl ?_ | refine op_v (v_pickf rfl rfl) rfl ?_ | refine op_v (v_pickb rfl rfl rfl) rfl ?_
                  refine ops_nil ?_
                  refine post_next ?_
                  refine code_cond_t rfl ?_
                  refine code_seq ?_
                  refine code_draw (.fl 0 (.fl 1 (.fl 2 (.fl 3 (.fl 4 (.fl 5 (.fl 6 (.ef 7 (.fl 8 (.fl 9 (.fl 10 (.ef 11 (.ef 12 .done))))))))))))) (fun _ => _) mixed (by kernel_rfl) (by kernel_rfl) (fun _ => (List.Sublist.refl _)) ?_
                  refine e_float rfl rfl (fun hs_ => PF.mk rfl (v_move rfl) hs_) (by repeat (first | exact Imm.le_refl _ | assumption | refine Imm.le_trans ?_ (by assumption))) (by intro x hx; first | exact hx | exact List.mem_cons_of_mem _ hx | exact List.mem_append_right _ hx | (simp only [List.mem_cons, List.not_mem_nil, or_false] at hx; repeat' (first | (subst hx; simp [cellsL]; done) | rcases hx with hx | hx)) | simp_all) ?_
                  refine e_float rfl rfl (fun hs_ => PF.mk rfl (v_move rfl) hs_) (by repeat (first | exact Imm.le_refl _ | assumption | refine Imm.le_trans ?_ (by assumption))) (by intro x hx; first | exact hx | exact List.mem_cons_of_mem _ hx | exact List.mem_append_right _ hx | (simp only [List.mem_cons, List.not_mem_nil, or_false] at hx; repeat' (first | (subst hx; simp [cellsL]; done) | rcases hx with hx | hx)) | simp_all) ?_
                  first | refine e_float rfl rfl (fun hs_ => PF.mk rfl (v_index Try.underlying23 sz25 rfl rfl (by omega) (by assumption)) hs_) (by repeat (first | exact Imm.le_refl _ | assumption | refine Imm.le_trans ?_ (by assumption))) (by intro x hx; first | exact hx | exact List.mem_cons_of_mem _ hx | exact List.mem_append_right _ hx | (simp only [List.mem_cons, List.not_mem_nil, or_false] at hx; repeat' (first | (subst hx; simp [cellsL]; done) | rcases hx with hx | hx)) | simp_all) ?_ | refine e_float rfl rfl (fun hs_ => PF.mk rfl (v_indexI Try.underlying23 sz25 rfl rfl (by first | omega | (simp; done) | (simp; omega)) (by first | omega | (simp; done) | (simp; omega)) (by assumption)) hs_) (by repeat (first | exact Imm.le_refl _ | assumption | refine Imm.le_trans ?_ (by assumption))) (by intro x hx; first | exact hx | exact List.mem_cons_of_mem _ hx | exact List.mem_append_right _ hx | (simp only [List.mem_cons, List.not_mem_nil, or_false] at hx; repeat' (first | (subst hx; simp [cellsL]; done) | rcases hx with hx | hx)) | simp_all) ?_
                  refine e_float rfl rfl (fun hs_ => PF.mk rfl (v_loadI0 (m := 0) ty25 (hx1.mono (by repeat (first | exact Imm.le_refl _ | assumption | refine Imm.le_trans ?_ (by assumption)))) rfl rfl rfl) hs_) (by repeat (first | exact Imm.le_refl _ | assumption | refine Imm.le_trans ?_ (by assumption))) (by intro x hx; first | exact hx | exact List.mem_cons_of_mem _ hx | exact List.mem_append_right _ hx | (simp only [List.mem_cons, List.not_mem_nil, or_false] at hx; repeat' (first | (subst hx; simp [cellsL]; done) | rcases hx with hx | hx)) | simp_all) ?_
                  refine e_float rfl rfl (fun hs_ => PF.mk rfl (v_move rfl) hs_) (by repeat (first | exact Imm.le_refl _ | assumption | refine Imm.le_trans ?_ (by assumption))) (by intro x hx; first | exact hx | exact List.mem_cons_of_mem _ hx | exact List.mem_append_right _ hx | (simp only [List.mem_cons, List.not_mem_nil, or_false] at hx; repeat' (first | (subst hx; simp [cellsL]; done) | rcases hx with hx | hx)) | simp_all) ?_
                  first | refine e_float rfl rfl (fun hs_ => PF.mk rfl (v_index Try.underlying23 sz25 rfl rfl (by omega) (by assumption)) hs_) (by repeat (first | exact Imm.le_refl _ | assumption | refine Imm.le_trans ?_ (by assumption))) (by intro x hx; first | exact hx | exact List.mem_cons_of_mem _ hx | exact List.mem_append_right _ hx | (simp only [List.mem_cons, List.not_mem_nil, or_false] at hx; repeat' (first | (subst hx; simp [cellsL]; done) | rcases hx with hx | hx)) | simp_all) ?_ | refine e_float rfl rfl (fun hs_ => PF.mk rfl (v_indexI Try.underlying23 sz25 rfl rfl (by first | omega | (simp; done) | (simp; omega)) (by first | omega | (simp; done) | (simp; omega)) (by assumption)) hs_) (by repeat (first | exact Imm.le_refl _ | assumption | refine Imm.le_trans ?_ (by assumption))) (by intro x hx; first | exact hx | exact List.mem_cons_of_mem _ hx | exact List.mem_append_right _ hx | (simp only [List.mem_cons, List.not_mem_nil, or_false] at hx; repeat' (first | (subst hx; simp [cellsL]; done) | rcases hx with hx | hx)) | simp_all) ?_
                  refine e_float rfl rfl (fun hs_ => PF.mk rfl (v_loadI0 (m := 0) ty25 (hy1.mono (by repeat (first | exact Imm.le_refl _ | assumption | refine Imm.le_trans ?_ (by assumption)))) rfl rfl rfl) hs_) (by repeat (first | exact Imm.le_refl _ | assumption | refine Imm.le_trans ?_ (by assumption))) (by intro x hx; first | exact hx | exact List.mem_cons_of_mem _ hx | exact List.mem_append_right _ hx | (simp only [List.mem_cons, List.not_mem_nil, or_false] at hx; repeat' (first | (subst hx; simp [cellsL]; done) | rcases hx with hx | hx)) | simp_all) ?_
                  refine e_eff rfl (by intro cs b hc; cases hc) (by intro c hc; cases hc) ?_
                  refine op_call pl19 rfl rfl ((KCompare_does (a := x) (b := y) (hg.mono (by repeat (first | exact Imm.le_refl _ | assumption | refine Imm.le_trans ?_ (by assumption)))) (hx3.mono (by repeat (first | exact Imm.le_refl _ | assumption | refine Imm.le_trans ?_ (by assumption)))) (hy3.mono (by repeat (first | exact Imm.le_refl _ | assumption | refine Imm.le_trans ?_ (by assumption)))) (by have := hsa x (by simp); omega) (by have := hsb y (by simp); omega))) Parts.none ?_
                  rintro v114 I114 _ hI114 ⟨rfl, rfl⟩
                  rw [show wrongG gs [x, y] = 0 from e2, if_pos rfl]
                  refine ops_nil ?_
                  refine e_next rfl (side_all (by repeat (first | exact Imm.le_refl _ | assumption | refine Imm.le_trans ?_ (by assumption))) (fun _ => (by intro x hx; first | exact hx | exact List.mem_cons_of_mem _ hx | exact List.mem_append_right _ hx | (simp only [List.mem_cons, List.not_mem_nil, or_false] at hx; repeat' (first | (subst hx; simp [cellsL]; done) | rcases hx with hx | hx)) | simp_all))) ?_
                  refine e_float rfl rfl (fun hs_ => PF.mk rfl (v_move rfl) hs_) (by repeat (first | exact Imm.le_refl _ | assumption | refine Imm.le_trans ?_ (by assumption))) (by intro x hx; first | exact hx | exact List.mem_cons_of_mem _ hx | exact List.mem_append_right _ hx | (simp only [List.mem_cons, List.not_mem_nil, or_false] at hx; repeat' (first | (subst hx; simp [cellsL]; done) | rcases hx with hx | hx)) | simp_all) ?_
                  refine e_float rfl rfl (fun hs_ => PF.mk rfl (v_extract rfl rfl) hs_) (by repeat (first | exact Imm.le_refl _ | assumption | refine Imm.le_trans ?_ (by assumption))) (by intro x hx; first | exact hx | exact List.mem_cons_of_mem _ hx | exact List.mem_append_right _ hx | (simp only [List.mem_cons, List.not_mem_nil, or_false] at hx; repeat' (first | (subst hx; simp [cellsL]; done) | rcases hx with hx | hx)) | simp_all) ?_
                  refine e_float rfl rfl (fun hs_ => PF.mk rfl (v_extract rfl rfl) hs_) (by repeat (first | exact Imm.le_refl _ | assumption | refine Imm.le_trans ?_ (by assumption))) (by intro x hx; first | exact hx | exact List.mem_cons_of_mem _ hx | exact List.mem_append_right _ hx | (simp only [List.mem_cons, List.not_mem_nil, or_false] at hx; repeat' (first | (subst hx; simp [cellsL]; done) | rcases hx with hx | hx)) | simp_all) ?_
                  refine e_eff rfl (by intro cs b hc; cases hc) (by intro c hc; cases hc) ?_
                  refine op_v (v_assign rfl) rfl ?_
                  refine ops_nil ?_
                  refine e_next rfl (side_all (by repeat (first | exact Imm.le_refl _ | assumption | refine Imm.le_trans ?_ (by assumption))) (fun _ => (by intro x hx; first | exact hx | exact List.mem_cons_of_mem _ hx | exact List.mem_append_right _ hx | (simp only [List.mem_cons, List.not_mem_nil, or_false] at hx; repeat' (first | (subst hx; simp [cellsL]; done) | rcases hx with hx | hx)) | simp_all))) ?_
                  refine e_eff rfl (by intro cs b hc; cases hc) (by intro c hc; cases hc) ?_
                  refine op_v (v_assign rfl) rfl ?_
                  refine ops_nil ?_
                  refine e_next rfl (side_nil (by kernel_rfl)) ?_
                  refine e_done ?_
                  refine post_next ?_
                  refine code_seq ?_
                  refine code_region ?_
                  refine op_v (v_move rfl) rfl ?_
                  first | refine op_v (v_cmpt rfl rfl rfl (by first | omega | (simp; done) | (simp; omega))) rfl ?_ | refine op_v (v_cmpf rfl rfl rfl (by first | omega | (simp; done) | (simp; omega))) rfl ?_ | refine op_v (v_cmp rfl rfl rfl) rfl ?_
                  refine op_v (v_move rfl) rfl ?_
                  first
                    | (refine op_want rfl rfl ?_
                       refine op_v (v_move rfl) rfl ?_)
                    | (refine op_skip rfl rfl (by simp [undef]) rfl ?_)
                  first
                    | (refine op_want rfl rfl ?_
                       refine op_v (v_move rfl) rfl ?_)
                    | (refine op_skip rfl rfl (by simp [undef]) rfl ?_)
                  first
                    | (refine op_want rfl rfl ?_
                       first | refine op_v (v_cmpt rfl rfl rfl (by first | omega | (simp; done) | (simp; omega))) rfl ?_ | refine op_v (v_cmpf rfl rfl rfl (by first | omega | (simp; done) | (simp; omega))) rfl ?_ | refine op_v (v_cmp rfl rfl rfl) rfl ?_)
                    | (refine op_skip rfl rfl (by simp [undef]) rfl ?_)
                  first | refine op_v (v_pickt rfl rfl) rfl ?_ | refine op_v (v_pickf rfl rfl) rfl ?_ | refine op_v (v_pickb rfl rfl rfl) rfl ?_
                  refine ops_nil ?_
                  refine post_next ?_
                  refine code_cond_f rfl ?_
                  refine code_skip ?_
                  refine post_next ?_
                  refine code_seq ?_
                  refine code_region ?_
                  refine op_call pl30 rfl rfl ((awake8_does _)) Parts.none ?_
                  rintro v124 I124 _ hI124 ⟨rfl, rfl⟩
                  refine op_v (v_move rfl) rfl ?_
                  first
                    | (refine op_want rfl rfl ?_
                       refine op_v (v_move rfl) rfl ?_)
                    | (refine op_skip rfl rfl (by simp [undef]) rfl ?_)
                  first
                    | (refine op_want rfl rfl ?_
                       refine op_v (v_move rfl) rfl ?_)
                    | (refine op_skip rfl rfl (by simp [undef]) rfl ?_)
                  first
                    | (refine op_want rfl rfl ?_
                       first | refine op_v (v_cmpt rfl rfl rfl (by first | omega | (simp; done) | (simp; omega))) rfl ?_ | refine op_v (v_cmpf rfl rfl rfl (by first | omega | (simp; done) | (simp; omega))) rfl ?_ | refine op_v (v_cmp rfl rfl rfl) rfl ?_)
                    | (refine op_skip rfl rfl (by simp [undef]) rfl ?_)
                  first | refine op_v (v_pickt rfl rfl) rfl ?_ | refine op_v (v_pickf rfl rfl) rfl ?_ | refine op_v (v_pickb rfl rfl rfl) rfl ?_
                  refine op_v (v_move rfl) rfl ?_
                  first
                    | (refine op_want rfl rfl ?_
                       refine op_v (v_move rfl) rfl ?_)
                    | (refine op_skip rfl rfl (by simp [undef]) rfl ?_)
                  first
                    | (refine op_want rfl rfl ?_
                       first | refine op_v (v_cmpt rfl rfl rfl (by first | omega | (simp; done) | (simp; omega))) rfl ?_ | refine op_v (v_cmpf rfl rfl rfl (by first | omega | (simp; done) | (simp; omega))) rfl ?_ | refine op_v (v_cmp rfl rfl rfl) rfl ?_)
                    | (refine op_skip rfl rfl (by simp [undef]) rfl ?_)
                  first | refine op_v (v_pickt rfl rfl) rfl ?_ | refine op_v (v_pickf rfl rfl) rfl ?_ | refine op_v (v_pickb rfl rfl rfl) rfl ?_
                  refine op_v (v_assign rfl) rfl ?_
                  refine ops_nil ?_
                  refine post_next ?_
                  refine code_ret ?_
                  refine post_ret (rs := [.tmp 8]) rfl (List.Perm.refl _) (.cons (.tmp rfl) .nil) (List.nil_sublist _) ?_
                  exact ⟨rfl, rfl⟩
                · first
                    | (refine op_want rfl rfl ?_
                       first | refine op_v (v_cmpt rfl rfl rfl (by first | omega | (simp; done) | (simp; omega))) rfl ?_ | refine op_v (v_cmpf rfl rfl rfl (by first | omega | (simp; done) | (simp; omega))) rfl ?_ | refine op_v (v_cmp rfl rfl rfl) rfl ?_)
                    | (refine op_skip rfl rfl (by simp [undef]) rfl ?_)
                  first | refine op_v (v_pickt rfl rfl) rfl ?_ | refine op_v (v_pickf rfl rfl) rfl ?_ | refine op_v (v_pickb rfl rfl rfl) rfl ?_
                  refine ops_nil ?_
                  refine post_next ?_
                  refine code_cond_f rfl ?_
                  refine code_skip ?_
                  refine post_next ?_
                  refine code_seq ?_
                  refine code_region ?_
                  refine op_call pl30 rfl rfl ((awake8_does _)) Parts.none ?_
                  rintro v124 I124 _ hI124 ⟨rfl, rfl⟩
                  refine op_v (v_move rfl) rfl ?_
                  first
                    | (refine op_want rfl rfl ?_
                       refine op_v (v_move rfl) rfl ?_)
                    | (refine op_skip rfl rfl (by simp [undef]) rfl ?_)
                  first
                    | (refine op_want rfl rfl ?_
                       refine op_v (v_move rfl) rfl ?_)
                    | (refine op_skip rfl rfl (by simp [undef]) rfl ?_)
                  first
                    | (refine op_want rfl rfl ?_
                       first | refine op_v (v_cmpt rfl rfl rfl (by first | omega | (simp; done) | (simp; omega))) rfl ?_ | refine op_v (v_cmpf rfl rfl rfl (by first | omega | (simp; done) | (simp; omega))) rfl ?_ | refine op_v (v_cmp rfl rfl rfl) rfl ?_)
                    | (refine op_skip rfl rfl (by simp [undef]) rfl ?_)
                  first | refine op_v (v_pickt rfl rfl) rfl ?_ | refine op_v (v_pickf rfl rfl) rfl ?_ | refine op_v (v_pickb rfl rfl rfl) rfl ?_
                  refine op_v (v_move rfl) rfl ?_
                  first
                    | (refine op_want rfl rfl ?_
                       refine op_v (v_move rfl) rfl ?_)
                    | (refine op_skip rfl rfl (by simp [undef]) rfl ?_)
                  first
                    | (refine op_want rfl rfl ?_
                       first | refine op_v (v_cmpt rfl rfl rfl (by first | omega | (simp; done) | (simp; omega))) rfl ?_ | refine op_v (v_cmpf rfl rfl rfl (by first | omega | (simp; done) | (simp; omega))) rfl ?_ | refine op_v (v_cmp rfl rfl rfl) rfl ?_)
                    | (refine op_skip rfl rfl (by simp [undef]) rfl ?_)
                  first | refine op_v (v_pickt rfl rfl) rfl ?_ | refine op_v (v_pickf rfl rfl) rfl ?_ | refine op_v (v_pickb rfl rfl rfl) rfl ?_
                  refine op_v (v_assign rfl) rfl ?_
                  refine ops_nil ?_
                  refine post_next ?_
                  refine code_ret ?_
                  refine post_ret (rs := [.tmp 8]) rfl (List.Perm.refl _) (.cons (.tmp rfl) .nil) (List.nil_sublist _) ?_
                  exact ⟨rfl, rfl⟩
              · first | refine op_v (v_cmpt rfl rfl rfl (by first | omega | (simp; done) | (simp; omega))) rfl ?_ | refine op_v (v_cmpf rfl rfl rfl (by first | omega | (simp; done) | (simp; omega))) rfl ?_ | refine op_v (v_cmp rfl rfl rfl) rfl ?_
                refine op_v (v_move rfl) rfl ?_
                first
                  | (refine op_want rfl rfl ?_
                     refine op_v (v_move rfl) rfl ?_)
                  | (refine op_skip rfl rfl (by simp [undef]) rfl ?_)
                first
                  | (refine op_want rfl rfl ?_
                     refine op_v (v_len Try.underlying23 rfl) rfl ?_)
                  | (refine op_skip rfl rfl (by simp [undef]) rfl ?_)
                first
                  | (refine op_want rfl rfl ?_
                     first | refine op_v (v_cmpt rfl rfl rfl (by first | omega | (simp; done) | (simp; omega))) rfl ?_ | refine op_v (v_cmpf rfl rfl rfl (by first | omega | (simp; done) | (simp; omega))) rfl ?_ | refine op_v (v_cmp rfl rfl rfl) rfl ?_)
                  | (refine op_skip rfl rfl (by simp [undef]) rfl ?_)
                first | refine op_v (v_pickt rfl rfl) rfl ?_ | refine op_v (v_pickf rfl rfl) rfl ?_ | refine op_v (v_pickb rfl rfl rfl) rfl ?_
                refine ops_nil ?_
                refine post_next ?_
                refine code_cond_f rfl ?_
                refine code_skip ?_
                refine post_next ?_
                refine code_seq ?_
                refine code_region ?_
                refine op_call pl30 rfl rfl ((awake8_does _)) Parts.none ?_
                rintro v124 I124 _ hI124 ⟨rfl, rfl⟩
                refine op_v (v_move rfl) rfl ?_
                first
                  | (refine op_want rfl rfl ?_
                     refine op_v (v_move rfl) rfl ?_)
                  | (refine op_skip rfl rfl (by simp [undef]) rfl ?_)
                first
                  | (refine op_want rfl rfl ?_
                     refine op_v (v_move rfl) rfl ?_)
                  | (refine op_skip rfl rfl (by simp [undef]) rfl ?_)
                first
                  | (refine op_want rfl rfl ?_
                     first | refine op_v (v_cmpt rfl rfl rfl (by first | omega | (simp; done) | (simp; omega))) rfl ?_ | refine op_v (v_cmpf rfl rfl rfl (by first | omega | (simp; done) | (simp; omega))) rfl ?_ | refine op_v (v_cmp rfl rfl rfl) rfl ?_)
                  | (refine op_skip rfl rfl (by simp [undef]) rfl ?_)
                first | refine op_v (v_pickt rfl rfl) rfl ?_ | refine op_v (v_pickf rfl rfl) rfl ?_ | refine op_v (v_pickb rfl rfl rfl) rfl ?_
                refine op_v (v_move rfl) rfl ?_
                first
                  | (refine op_want rfl rfl ?_
                     refine op_v (v_move rfl) rfl ?_)
                  | (refine op_skip rfl rfl (by simp [undef]) rfl ?_)
                first
                  | (refine op_want rfl rfl ?_
                     first | refine op_v (v_cmpt rfl rfl rfl (by first | omega | (simp; done) | (simp; omega))) rfl ?_ | refine op_v (v_cmpf rfl rfl rfl (by first | omega | (simp; done) | (simp; omega))) rfl ?_ | refine op_v (v_cmp rfl rfl rfl) rfl ?_)
                  | (refine op_skip rfl rfl (by simp [undef]) rfl ?_)
                first | refine op_v (v_pickt rfl rfl) rfl ?_ | refine op_v (v_pickf rfl rfl) rfl ?_ | refine op_v (v_pickb rfl rfl rfl) rfl ?_
                refine op_v (v_assign rfl) rfl ?_
                refine ops_nil ?_
                refine post_next ?_
                refine code_ret ?_
                refine post_ret (rs := [.tmp 8]) rfl (List.Perm.refl _) (.cons (.tmp rfl) .nil) (List.nil_sublist _) ?_
                exact ⟨rfl, rfl⟩
      · have h34' : b33 = false := by simpa using h34
        subst h34'
        first
          | (refine op_want rfl rfl ?_
             refine op_v (v_not rfl) rfl ?_)
          | (refine op_skip rfl rfl (by simp [undef]) rfl ?_)
        first | refine op_v (v_pickt rfl rfl) rfl ?_ | refine op_v (v_pickf rfl rfl) rfl ?_ | refine op_v (v_pickb rfl rfl rfl) rfl ?_
        refine op_v (v_move rfl) rfl ?_
        first
          | (refine op_want rfl rfl ?_
             refine op_v (v_move rfl) rfl ?_)
          | (refine op_skip rfl rfl (by simp [undef]) rfl ?_)
        first
          | (refine op_want rfl rfl ?_
             refine op_v (v_len Try.underlying23 rfl) rfl ?_)
          | (refine op_skip rfl rfl (by simp [undef]) rfl ?_)
        first
          | (refine op_want rfl rfl ?_
             refine op_v (v_move rfl) rfl ?_)
          | (refine op_skip rfl rfl (by simp [undef]) rfl ?_)
        first
          | (refine op_want rfl rfl ?_
             refine op_v (v_len Try.underlying23 rfl) rfl ?_)
          | (refine op_skip rfl rfl (by simp [undef]) rfl ?_)
        first
          | (refine op_want rfl rfl ?_
             first | refine op_v (v_addb rfl rfl rfl (by omega)) rfl ?_ | refine op_v (v_add rfl rfl) rfl ?_)
          | (refine op_skip rfl rfl (by simp [undef]) rfl ?_)
        first
          | (refine op_want rfl rfl ?_
             first | refine op_v (v_cmpt rfl rfl rfl (by first | omega | (simp; done) | (simp; omega))) rfl ?_ | refine op_v (v_cmpf rfl rfl rfl (by first | omega | (simp; done) | (simp; omega))) rfl ?_ | refine op_v (v_cmp rfl rfl rfl) rfl ?_)
          | (refine op_skip rfl rfl (by simp [undef]) rfl ?_)
        first | refine op_v (v_pickt rfl rfl) rfl ?_ | refine op_v (v_pickf rfl rfl) rfl ?_ | refine op_v (v_pickb rfl rfl rfl) rfl ?_
        refine ops_nil ?_
        refine post_next ?_
        refine code_cond_t rfl ?_
        refine code_seq ?_
        refine code_region ?_
        refine op_v (v_assign rfl) rfl ?_
        refine ops_nil ?_
        refine post_next ?_
        refine code_ret ?_
        refine post_ret_then ?_
        refine post_ret (rs := [.tmp 8]) rfl (List.Perm.refl _) (.cons (.tmp rfl) .nil) (List.nil_sublist _) ?_
        exact ⟨rfl, rfl⟩
    · have h27' : b26 = false := by simpa using h27
      subst h27'
      first
        | (refine op_want rfl rfl ?_
           refine op_v (v_not rfl) rfl ?_)
        | (refine op_skip rfl rfl (by simp [undef]) rfl ?_)
      first | refine op_v (v_pickt rfl rfl) rfl ?_ | refine op_v (v_pickf rfl rfl) rfl ?_ | refine op_v (v_pickb rfl rfl rfl) rfl ?_
      refine op_v (v_move rfl) rfl ?_
      first
        | (refine op_want rfl rfl ?_
           refine op_v (v_move rfl) rfl ?_)
        | (refine op_skip rfl rfl (by simp [undef]) rfl ?_)
      first
        | (refine op_want rfl rfl ?_
           refine op_v (v_load ty25 rfl (by repeat (first | exact Has.here | apply Has.there)) rfl) rfl ?_)
        | (refine op_skip rfl rfl (by simp [undef]) rfl ?_)
      first
        | (refine op_want rfl rfl ?_
           refine o_buildSlice (xs := [(Go.Operand.tmp 31)]) Try.underlying23 bs25 rfl rfl rfl rfl rfl (fun b32 => ?_)
           refine OpsJ.freezeRow Del.here ?_
           rintro I32 a32 c32 hI32 hq hc32 hl32 hcells32
           cases hq)
        | (refine op_skip rfl rfl (by simp [undef]) rfl ?_)
      first
        | (refine op_want rfl rfl ?_
           refine op_call pl28 rfl rfl ((few8_does (hg.mono (by repeat (first | exact Imm.le_refl _ | assumption | refine Imm.le_trans ?_ (by assumption)))) (RowT.repS (ts := [t]) rfl hcells32 (RowT.one (hvt.mono (by repeat (first | exact Imm.le_refl _ | assumption | refine Imm.le_trans ?_ (by assumption))))) hc32 (by simp)))) Parts.none ?_
           rintro v33 I33 _ hI33 ⟨⟨b33, rfl, hb33⟩, rfl⟩)
        | (refine op_skip rfl rfl (by simp [undef]) rfl ?_)
      first
        | (refine op_want rfl rfl ?_
           refine op_v (v_not rfl) rfl ?_)
        | (refine op_skip rfl rfl (by simp [undef]) rfl ?_)
      first | refine op_v (v_pickt rfl rfl) rfl ?_ | refine op_v (v_pickf rfl rfl) rfl ?_ | refine op_v (v_pickb rfl rfl rfl) rfl ?_
      refine op_v (v_move rfl) rfl ?_
      first
        | (refine op_want rfl rfl ?_
           refine op_v (v_move rfl) rfl ?_)
        | (refine op_skip rfl rfl (by simp [undef]) rfl ?_)
      first
        | (refine op_want rfl rfl ?_
           refine op_v (v_len Try.underlying23 rfl) rfl ?_)
        | (refine op_skip rfl rfl (by simp [undef]) rfl ?_)
      first
        | (refine op_want rfl rfl ?_
           refine op_v (v_move rfl) rfl ?_)
        | (refine op_skip rfl rfl (by simp [undef]) rfl ?_)
      first
        | (refine op_want rfl rfl ?_
           refine op_v (v_len Try.underlying23 rfl) rfl ?_)
        | (refine op_skip rfl rfl (by simp [undef]) rfl ?_)
      first
        | (refine op_want rfl rfl ?_
           first | refine op_v (v_addb rfl rfl rfl (by omega)) rfl ?_ | refine op_v (v_add rfl rfl) rfl ?_)
        | (refine op_skip rfl rfl (by simp [undef]) rfl ?_)
      first
        | (refine op_want rfl rfl ?_
           first | refine op_v (v_cmpt rfl rfl rfl (by first | omega | (simp; done) | (simp; omega))) rfl ?_ | refine op_v (v_cmpf rfl rfl rfl (by first | omega | (simp; done) | (simp; omega))) rfl ?_ | refine op_v (v_cmp rfl rfl rfl) rfl ?_)
        | (refine op_skip rfl rfl (by simp [undef]) rfl ?_)
      first | refine op_v (v_pickt rfl rfl) rfl ?_ | refine op_v (v_pickf rfl rfl) rfl ?_ | refine op_v (v_pickb rfl rfl rfl) rfl ?_
      refine ops_nil ?_
      refine post_next ?_
      refine code_cond_t rfl ?_
      refine code_seq ?_
      refine code_region ?_
      refine op_v (v_assign rfl) rfl ?_
      refine ops_nil ?_
      refine post_next ?_
      refine code_ret ?_
      refine post_ret_then ?_
      refine post_ret (rs := [.tmp 8]) rfl (List.Perm.refl _) (.cons (.tmp rfl) .nil) (List.nil_sublist _) ?_
      exact ⟨rfl, rfl⟩
  · have h22' : b21 = false := by simpa using h22
    subst h22'
    refine op_v (v_not rfl) rfl ?_
    refine op_v (v_move rfl) rfl ?_
    first
      | (refine op_want rfl rfl ?_
         refine op_v (v_move rfl) rfl ?_)
      | (refine op_skip rfl rfl (by simp [undef]) rfl ?_)
    first
      | (refine op_want rfl rfl ?_
         refine op_v (v_move rfl) rfl ?_)
      | (refine op_skip rfl rfl (by simp [undef]) rfl ?_)
    first
      | (refine op_want rfl rfl ?_
         refine op_call pl28 rfl rfl ((few8_does (hg.mono (by repeat (first | exact Imm.le_refl _ | assumption | refine Imm.le_trans ?_ (by assumption)))) (hb.mono (by repeat (first | exact Imm.le_refl _ | assumption | refine Imm.le_trans ?_ (by assumption)))))) Parts.none ?_
         rintro v26 I26 _ hI26 ⟨⟨b26, rfl, hb26⟩, rfl⟩)
      | (refine op_skip rfl rfl (by simp [undef]) rfl ?_)
    first
      | (refine op_want rfl rfl ?_
         refine op_v (v_not rfl) rfl ?_)
      | (refine op_skip rfl rfl (by simp [undef]) rfl ?_)
    first | refine op_v (v_pickt rfl rfl) rfl ?_ | refine op_v (v_pickf rfl rfl) rfl ?_ | refine op_v (v_pickb rfl rfl rfl) rfl ?_
    refine op_v (v_move rfl) rfl ?_
    first
      | (refine op_want rfl rfl ?_
         refine op_v (v_move rfl) rfl ?_)
      | (refine op_skip rfl rfl (by simp [undef]) rfl ?_)
    first
      | (refine op_want rfl rfl ?_
         refine op_v (v_load ty25 rfl (by repeat (first | exact Has.here | apply Has.there)) rfl) rfl ?_)
      | (refine op_skip rfl rfl (by simp [undef]) rfl ?_)
    first
      | (refine op_want rfl rfl ?_
         refine o_buildSlice (xs := [(Go.Operand.tmp 31)]) Try.underlying23 bs25 rfl rfl rfl rfl rfl (fun b32 => ?_)
         refine OpsJ.freezeRow Del.here ?_
         rintro I32 a32 c32 hI32 hq hc32 hl32 hcells32
         cases hq)
      | (refine op_skip rfl rfl (by simp [undef]) rfl ?_)
    first
      | (refine op_want rfl rfl ?_
         refine op_call pl28 rfl rfl ((few8_does (hg.mono (by repeat (first | exact Imm.le_refl _ | assumption | refine Imm.le_trans ?_ (by assumption)))) (RowT.repS (ts := [t]) rfl hcells32 (RowT.one (hvt.mono (by repeat (first | exact Imm.le_refl _ | assumption | refine Imm.le_trans ?_ (by assumption))))) hc32 (by simp)))) Parts.none ?_
         rintro v33 I33 _ hI33 ⟨⟨b33, rfl, hb33⟩, rfl⟩)
      | (refine op_skip rfl rfl (by simp [undef]) rfl ?_)
    first
      | (refine op_want rfl rfl ?_
         refine op_v (v_not rfl) rfl ?_)
      | (refine op_skip rfl rfl (by simp [undef]) rfl ?_)
    first | refine op_v (v_pickt rfl rfl) rfl ?_ | refine op_v (v_pickf rfl rfl) rfl ?_ | refine op_v (v_pickb rfl rfl rfl) rfl ?_
    refine op_v (v_move rfl) rfl ?_
    first
      | (refine op_want rfl rfl ?_
         refine op_v (v_move rfl) rfl ?_)
      | (refine op_skip rfl rfl (by simp [undef]) rfl ?_)
    first
      | (refine op_want rfl rfl ?_
         refine op_v (v_len Try.underlying23 rfl) rfl ?_)
      | (refine op_skip rfl rfl (by simp [undef]) rfl ?_)
    first
      | (refine op_want rfl rfl ?_
         refine op_v (v_move rfl) rfl ?_)
      | (refine op_skip rfl rfl (by simp [undef]) rfl ?_)
    first
      | (refine op_want rfl rfl ?_
         refine op_v (v_len Try.underlying23 rfl) rfl ?_)
      | (refine op_skip rfl rfl (by simp [undef]) rfl ?_)
    first
      | (refine op_want rfl rfl ?_
         first | refine op_v (v_addb rfl rfl rfl (by omega)) rfl ?_ | refine op_v (v_add rfl rfl) rfl ?_)
      | (refine op_skip rfl rfl (by simp [undef]) rfl ?_)
    first
      | (refine op_want rfl rfl ?_
         first | refine op_v (v_cmpt rfl rfl rfl (by first | omega | (simp; done) | (simp; omega))) rfl ?_ | refine op_v (v_cmpf rfl rfl rfl (by first | omega | (simp; done) | (simp; omega))) rfl ?_ | refine op_v (v_cmp rfl rfl rfl) rfl ?_)
      | (refine op_skip rfl rfl (by simp [undef]) rfl ?_)
    first | refine op_v (v_pickt rfl rfl) rfl ?_ | refine op_v (v_pickf rfl rfl) rfl ?_ | refine op_v (v_pickb rfl rfl rfl) rfl ?_
    refine ops_nil ?_
    refine post_next ?_
    refine code_cond_t rfl ?_
    refine code_seq ?_
    refine code_region ?_
    refine op_v (v_assign rfl) rfl ?_
    refine ops_nil ?_
    refine post_next ?_
    refine code_ret ?_
    refine post_ret_then ?_
    refine post_ret (rs := [.tmp 8]) rfl (List.Perm.refl _) (.cons (.tmp rfl) .nil) (List.nil_sublist _) ?_
    exact ⟨rfl, rfl⟩
end Go.Proofs.Ytegceppoioeeaaa
