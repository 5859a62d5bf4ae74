/- Walks: the document's example on places. -/
import Derived.Test.YtdcklngleglbbaaWl
set_option linter.unusedVariables false
set_option linter.unusedSimpArgs false
namespace Go.Proofs.Ytdcklngleglbbaa
open Go Lg

theorem Fun_does {I : Imm} {h : Int} {s : Value} {ts : List T} (hh : InR h) (hs : RepS I s ts) :
    Does Try.prog 53 [.int .i64 h, s] I [] (fun v I' δ' => RepT I' v (.mk h ts) ∧ δ' = []) := by
  have hs' := hs
  obtain ⟨ad, c, ss, ts, hc, hb, hat, hr, hsub⟩ := hs
  refine Does.intro Try.func53 rfl Try.ntmps53 rfl fun w0 => ?_
  refine code_seq ?_
  refine code_region ?_
  refine o_alloc z24 rfl rfl (fun b4 => ?_)
  refine ops_nil ?_
  refine post_next ?_
  refine code_seq ?_
  refine code_region ?_
  refine op_v (v_move rfl) rfl ?_
  refine op_v (v_move rfl) rfl ?_
  refine op_v (v_build bl24 rfl rfl) rfl ?_
  refine o_store ty24 rfl rfl rfl rfl rfl (by first | exact Swap.here | exact Swap.there Swap.here | exact Swap.there (Swap.there Swap.here) | exact Swap.there (Swap.there (Swap.there Swap.here)) | exact Swap.there (Swap.there (Swap.there (Swap.there Swap.here))) | exact Swap.there (Swap.there (Swap.there (Swap.there (Swap.there Swap.here))))) rfl ?_
  refine ops_nil ?_
  refine post_next ?_
  refine code_ret ?_
  refine post_ret (rs := [.cell 4 24]) rfl (List.Perm.refl _) (.cons (.cell rfl ty24 (by first | exact Has.here | exact Has.there Has.here | exact Has.there (Has.there Has.here) | exact Has.there (Has.there (Has.there Has.here)) | exact Has.there (Has.there (Has.there (Has.there Has.here))) | exact Has.there (Has.there (Has.there (Has.there (Has.there Has.here)))) | exact Has.there (Has.there (Has.there (Has.there (Has.there (Has.there Has.here)))))) rfl) .nil) (List.nil_sublist _) ?_
  exact ⟨RepT.mk _ (.mk h ts) hh hs', rfl⟩
theorem Var_does {I : Imm} {n : Int} (h0 : 0 ≤ n) (h1 : n ≤ 1000000000) :
    Does Try.prog 58 [.int .i64 n] I [] (fun v I' δ' => RepT I' v (.mk (-1 - n) []) ∧ δ' = []) := by
  refine Does.intro Try.func58 rfl Try.ntmps58 rfl fun w0 => ?_
  refine code_seq ?_
  refine code_region ?_
  refine o_alloc z24 rfl rfl (fun b2 => ?_)
  refine ops_nil ?_
  refine post_next ?_
  refine code_seq ?_
  refine code_region ?_
  refine op_v (v_move rfl) rfl ?_
  first | refine op_v (v_subb rfl rfl rfl (by omega)) rfl ?_ | refine op_v (v_sub rfl rfl) rfl ?_
  refine op_v (v_build bl24 rfl rfl) rfl ?_
  refine o_store ty24 rfl rfl rfl rfl rfl (by first | exact Swap.here | exact Swap.there Swap.here | exact Swap.there (Swap.there Swap.here) | exact Swap.there (Swap.there (Swap.there Swap.here)) | exact Swap.there (Swap.there (Swap.there (Swap.there Swap.here))) | exact Swap.there (Swap.there (Swap.there (Swap.there (Swap.there Swap.here))))) rfl ?_
  refine ops_nil ?_
  refine post_next ?_
  refine code_ret ?_
  refine post_ret (rs := [.cell 2 24]) rfl (List.Perm.refl _) (.cons (.cell rfl ty24 (by first | exact Has.here | exact Has.there Has.here | exact Has.there (Has.there Has.here) | exact Has.there (Has.there (Has.there Has.here)) | exact Has.there (Has.there (Has.there (Has.there Has.here))) | exact Has.there (Has.there (Has.there (Has.there (Has.there Has.here)))) | exact Has.there (Has.there (Has.there (Has.there (Has.there (Has.there Has.here)))))) rfl) .nil) (List.nil_sublist _) ?_
  exact ⟨RepT.mk _ (.mk (-1 - n) []) (by unfold InR; simp [T.head]; omega) (RepS.nil _), rfl⟩
theorem RowT.repS {I : Imm} {ad : Option Addr} {n c : Nat} {xs : List Value} {ts : List T} (hn : n = ts.length) (hc : Cells I ad xs) (hr : RowT I xs ts) (hle : n ≤ c) (hb : n ≤ 4398046511104) : RepS I (.slice ad n c) ts := by
  subst hn
  exact RepT.args (RowT.rep (h := 0) hc hr (by unfold InR; omega) hle hb)
theorem RInts.lit {I : Imm} {ad : Option Addr} {n c : Nat} {xs : List Int} (hat : Cells I ad (xs.map (Value.int .i64))) (hc : n ≤ c) (hr : xs.all (fun x => decide (0 ≤ x ∧ x ≤ 1000)) = true) (hn : n = xs.length := by rfl) (hb : n ≤ 17592186044416 := by decide) : RInts I (.slice ad n c) xs :=
  RInts.of hn hc hb hat (fun x hx => by have := List.all_eq_true.1 hr x hx; simp at this; unfold InR; omega)

theorem few_does (I : Imm) (v vp : Value) (t : T) (p : List Int) (hv : RepT I v t) (hp : RInts I vp p) :
    Does Try.prog 15 [v, vp] I [] (fun v I' δ' => v = .bool (decide (t.size ≤ 500 ∧ p.length ≤ 100)) ∧ δ' = []) := by
  obtain ⟨ad, c, rfl, hr0⟩ := hv.shape
  obtain ⟨pd, e, p, hpc, hpb, hpat, hpr⟩ := hp
  refine Does.intro Try.func15 rfl Try.ntmps15 rfl fun w0 => ?_
  refine code_seq ?_
  refine code_region ?_
  refine o_box rfl rfl rfl (fun b2 => ?_)
  refine op_v (v_assign rfl) rfl ?_
  refine ops_nil ?_
  refine post_next ?_
  refine code_seq ?_
  refine code_region ?_
  refine op_v (v_load ty24 rfl (by first | exact Has.here | exact Has.there Has.here | exact Has.there (Has.there Has.here) | exact Has.there (Has.there (Has.there Has.here)) | exact Has.there (Has.there (Has.there (Has.there Has.here))) | exact Has.there (Has.there (Has.there (Has.there (Has.there Has.here)))) | exact Has.there (Has.there (Has.there (Has.there (Has.there (Has.there Has.here)))))) rfl) rfl ?_
  refine op_call pl16 rfl rfl ((Few_does _ _ t hv)) Parts.none ?_
  rintro v6 I6 _ hI6 ⟨rfl, rfl⟩
  by_cases hs : t.size ≤ 500
  · rw [show decide (t.size ≤ 500) = true by simpa using hs]
    refine op_v (v_move rfl) rfl ?_
    first
      | (refine op_want rfl rfl ?_
         refine op_v (v_move rfl) rfl ?_)
      | (refine op_skip rfl rfl (by simp [undef]) rfl ?_)
    first
      | (refine op_want rfl rfl ?_
         refine op_v (v_len Try.underlying25 rfl) rfl ?_)
      | (refine op_skip rfl rfl (by simp [undef]) rfl ?_)
    first
      | (refine op_want rfl rfl ?_
         first | refine op_v (v_cmpt rfl rfl rfl (by first | omega | (simp; done) | (simp; omega))) rfl ?_ | refine op_v (v_cmpf rfl rfl rfl (by first | omega | (simp; done) | (simp; omega))) rfl ?_ | refine op_v (v_cmp rfl rfl rfl) rfl ?_)
      | (refine op_skip rfl rfl (by simp [undef]) rfl ?_)
    first | refine op_v (v_pickt rfl rfl) rfl ?_ | refine op_v (v_pickf rfl rfl) rfl ?_ | refine op_v (v_pickb rfl rfl rfl) rfl ?_
    refine op_v (v_assign rfl) rfl ?_
    refine ops_nil ?_
    refine post_next ?_
    refine code_ret ?_
    refine post_ret (rs := [.tmp 4]) rfl (List.Perm.refl _) (.cons (.tmp rfl) .nil) (List.nil_sublist _) ?_
    exact ⟨bool_b (by first | (simp [hs]; done) | (simp [hs]; omega)), rfl⟩
  · rw [show decide (t.size ≤ 500) = false by simpa using hs]
    refine op_v (v_move rfl) rfl ?_
    first
      | (refine op_want rfl rfl ?_
         refine op_v (v_move rfl) rfl ?_)
      | (refine op_skip rfl rfl (by simp [undef]) rfl ?_)
    first
      | (refine op_want rfl rfl ?_
         refine op_v (v_len Try.underlying25 rfl) rfl ?_)
      | (refine op_skip rfl rfl (by simp [undef]) rfl ?_)
    first
      | (refine op_want rfl rfl ?_
         first | refine op_v (v_cmpt rfl rfl rfl (by first | omega | (simp; done) | (simp; omega))) rfl ?_ | refine op_v (v_cmpf rfl rfl rfl (by first | omega | (simp; done) | (simp; omega))) rfl ?_ | refine op_v (v_cmp rfl rfl rfl) rfl ?_)
      | (refine op_skip rfl rfl (by simp [undef]) rfl ?_)
    first | refine op_v (v_pickt rfl rfl) rfl ?_ | refine op_v (v_pickf rfl rfl) rfl ?_ | refine op_v (v_pickb rfl rfl rfl) rfl ?_
    refine op_v (v_assign rfl) rfl ?_
    refine ops_nil ?_
    refine post_next ?_
    refine code_ret ?_
    refine post_ret (rs := [.tmp 4]) rfl (List.Perm.refl _) (.cons (.tmp rfl) .nil) (List.nil_sublist _) ?_
    exact ⟨bool_b (by first | (simp [hs]; done) | (simp [hs]; omega)), rfl⟩

def tA : T := .mk 4 [.mk 1 [], .mk 3 [.mk 2 []]]
theorem awake2_does (I : Imm) :
    Does Try.prog 22 [] I [] (fun v I' δ' => v = .bool true ∧ δ' = []) := by
  refine Does.intro Try.func22 rfl Try.ntmps22 rfl fun w0 => ?_
  refine code_seq ?_
  refine code_region ?_
  refine op_v (v_assign rfl) rfl ?_
  refine ops_nil ?_
  refine post_next ?_
  refine code_seq ?_
  refine code_region ?_
  refine op_call pl53 rfl rfl ((Fun_does (by unfold InR; omega) (RepS.nil _))) Parts.none ?_
  rintro v6 I6 _ hI6 ⟨hv6, rfl⟩
  obtain ⟨a6, c6, rfl, _⟩ := hv6.shape
  refine op_call pl53 rfl rfl ((Fun_does (by unfold InR; omega) (RepS.nil _))) Parts.none ?_
  rintro v7 I7 _ hI7 ⟨hv7, rfl⟩
  obtain ⟨a7, c7, rfl, _⟩ := hv7.shape
  refine o_buildSlice (xs := [(Go.Operand.tmp 7)]) Try.underlying22 bs24 rfl rfl rfl rfl rfl (fun b8 => ?_)
  refine OpsJ.freezeRow Del.here ?_
  rintro I8 a8 c8 hI8 hq hc8 hl8 hcells8
  cases hq
  refine op_call pl53 rfl rfl ((Fun_does (by unfold InR; omega) (RowT.repS rfl hcells8 (RowT.one (hv7.mono hI8)) hc8 (by omega)))) Parts.none ?_
  rintro v9 I9 _ hI9 ⟨hv9, rfl⟩
  obtain ⟨a9, c9, rfl, _⟩ := hv9.shape
  refine o_buildSlice (xs := [(Go.Operand.tmp 6), (Go.Operand.tmp 9)]) Try.underlying22 bs24 rfl rfl rfl rfl rfl (fun b10 => ?_)
  refine OpsJ.freezeRow Del.here ?_
  rintro I10 a10 c10 hI10 hq hc10 hl10 hcells10
  cases hq
  refine op_call pl53 rfl rfl ((Fun_does (by unfold InR; omega) (RowT.repS rfl hcells10 ((RowT.one (hv6.mono (Imm.le_trans hI7 (Imm.le_trans hI8 (Imm.le_trans hI9 hI10))))).app (RowT.one (hv9.mono hI10))) hc10 (by omega)))) Parts.none ?_
  rintro v11 I11 _ hI11 ⟨hv11, rfl⟩
  change RepT I11 _ tA at hv11
  obtain ⟨a11, c11, rfl, _⟩ := hv11.shape
  refine o_alloc z24 rfl rfl (fun b1 => ?_)
  refine o_store ty24 rfl rfl rfl rfl rfl (by first | exact Swap.here | exact Swap.there Swap.here | exact Swap.there (Swap.there Swap.here) | exact Swap.there (Swap.there (Swap.there Swap.here)) | exact Swap.there (Swap.there (Swap.there (Swap.there Swap.here))) | exact Swap.there (Swap.there (Swap.there (Swap.there (Swap.there Swap.here))))) rfl ?_
  refine ops_nil ?_
  refine post_next ?_
  refine code_seq ?_
  refine code_region ?_
  refine op_v (v_load ty24 rfl (by first | exact Has.here | exact Has.there Has.here | exact Has.there (Has.there Has.here) | exact Has.there (Has.there (Has.there Has.here)) | exact Has.there (Has.there (Has.there (Has.there Has.here))) | exact Has.there (Has.there (Has.there (Has.there (Has.there Has.here)))) | exact Has.there (Has.there (Has.there (Has.there (Has.there (Has.there Has.here)))))) rfl) rfl ?_
  refine o_buildSlice (xs := [(Go.Operand.const (Go.Value.int Go.IntKind.i64 1)), (Go.Operand.const (Go.Value.int Go.IntKind.i64 0))]) Try.underlying25 bs3 rfl rfl rfl rfl rfl (fun b14 => ?_)
  refine OpsJ.freezeRow Del.here ?_
  rintro I14 a14 c14 hI14 hq hc14 hl14 hcells14
  cases hq
  refine op_call pl18 rfl rfl ((At_does [1, 0] tA _ _ _ (hv11.mono hI14) (RInts.lit hcells14 hc14 rfl))) Parts.none ?_
  rintro v15 I15 _ hI15 ⟨⟨u15, rfl, hu15⟩, rfl⟩
  have hat15 : atT tA [1, 0] = some (.mk 2 []) := by simp [atT, tA, T.args]
  rw [hat15] at hu15 ⊢
  change RepT I15 u15 (.mk 2 []) at hu15
  obtain ⟨a15, c15, ss15, rfl, _⟩ := hu15.elim
  refine op_v (v_move rfl) rfl ?_
  refine op_v (v_extract rfl rfl) rfl ?_
  refine op_v (v_extract rfl rfl) rfl ?_
  refine o_alloc z24 rfl rfl (fun b2 => ?_)
  refine o_store ty24 rfl rfl rfl rfl rfl (by first | exact Swap.here | exact Swap.there Swap.here | exact Swap.there (Swap.there Swap.here) | exact Swap.there (Swap.there (Swap.there Swap.here)) | exact Swap.there (Swap.there (Swap.there (Swap.there Swap.here))) | exact Swap.there (Swap.there (Swap.there (Swap.there (Swap.there Swap.here))))) rfl ?_
  refine op_v (v_assign rfl) rfl ?_
  refine ops_nil ?_
  refine post_next ?_
  refine code_seq ?_
  refine code_region ?_
  refine op_v (v_load ty24 rfl (by first | exact Has.here | exact Has.there Has.here | exact Has.there (Has.there Has.here) | exact Has.there (Has.there (Has.there Has.here)) | exact Has.there (Has.there (Has.there (Has.there Has.here))) | exact Has.there (Has.there (Has.there (Has.there (Has.there Has.here)))) | exact Has.there (Has.there (Has.there (Has.there (Has.there (Has.there Has.here)))))) rfl) rfl ?_
  refine o_buildSlice (xs := [(Go.Operand.const (Go.Value.int Go.IntKind.i64 0))]) Try.underlying25 bs3 rfl rfl rfl rfl rfl (fun b20 => ?_)
  refine OpsJ.freezeRow Del.here ?_
  rintro I20 a20 c20 hI20 hq hc20 hl20 hcells20
  cases hq
  refine op_v (v_load ty24 rfl (by first | exact Has.here | exact Has.there Has.here | exact Has.there (Has.there Has.here) | exact Has.there (Has.there (Has.there Has.here)) | exact Has.there (Has.there (Has.there (Has.there Has.here))) | exact Has.there (Has.there (Has.there (Has.there (Has.there Has.here)))) | exact Has.there (Has.there (Has.there (Has.there (Has.there (Has.there Has.here)))))) rfl) rfl ?_
  refine op_call pl20 rfl rfl ((Put_does [0] tA (.mk 2 []) _ _ _ _ (hv11.mono (Imm.le_trans hI14 (Imm.le_trans hI15 hI20))) (RInts.lit hcells20 hc20 rfl) (hu15.mono hI20))) Parts.none ?_
  rintro v22 I22 _ hI22 ⟨⟨u22, rfl, hu22⟩, rfl⟩
  have hat22 : (atT tA [0]).isSome = true := by simp [atT, tA, T.args]
  have hput22 : putT tA [0] (.mk 2 []) = .mk 4 [.mk 2 [], .mk 3 [.mk 2 []]] := by simp [putT, tA, T.args, T.head]
  rw [if_pos hat22] at hu22 ⊢
  rw [hput22] at hu22
  obtain ⟨a22, c22, ss22, rfl, _, _, _, hat22', hsub22⟩ := hu22.elim
  have hsome22 := (hat22' 0 (by simp)).isSome
  refine op_v (v_move rfl) rfl ?_
  refine op_v (v_extract rfl rfl) rfl ?_
  refine op_v (v_extract rfl rfl) rfl ?_
  refine o_alloc z24 rfl rfl (fun b4 => ?_)
  refine o_store ty24 rfl rfl rfl rfl rfl (by first | exact Swap.here | exact Swap.there Swap.here | exact Swap.there (Swap.there Swap.here) | exact Swap.there (Swap.there (Swap.there Swap.here)) | exact Swap.there (Swap.there (Swap.there (Swap.there Swap.here))) | exact Swap.there (Swap.there (Swap.there (Swap.there (Swap.there Swap.here))))) rfl ?_
  refine op_v (v_assign rfl) rfl ?_
  refine ops_nil ?_
  refine post_next ?_
  refine code_seq ?_
  refine code_region ?_
  refine op_v (v_load ty24 rfl (by first | exact Has.here | exact Has.there Has.here | exact Has.there (Has.there Has.here) | exact Has.there (Has.there (Has.there Has.here)) | exact Has.there (Has.there (Has.there (Has.there Has.here))) | exact Has.there (Has.there (Has.there (Has.there (Has.there Has.here)))) | exact Has.there (Has.there (Has.there (Has.there (Has.there (Has.there Has.here)))))) rfl) rfl ?_
  refine op_call pl24 rfl rfl ((All_does tA (by simp [tA, T.size, sizeL]) _ _ (hv11.mono (Imm.le_trans hI14 (Imm.le_trans hI15 (Imm.le_trans hI20 hI22)))))) Parts.none ?_
  rintro v26 I26 _ hI26 ⟨hv26, rfl⟩
  refine o_buildSlice (xs := [(Go.Operand.const (Go.Value.int Go.IntKind.i64 0))]) Try.underlying25 bs3 rfl rfl rfl rfl rfl (fun b27 => ?_)
  refine OpsJ.freezeRow Del.here ?_
  rintro I27 a27 c27 hI27 hq hc27 hl27 hcells27
  cases hq
  refine o_buildSlice (xs := [(Go.Operand.const (Go.Value.int Go.IntKind.i64 1))]) Try.underlying25 bs3 rfl rfl rfl rfl rfl (fun b28 => ?_)
  refine OpsJ.freezeRow Del.here ?_
  rintro I28 a28 c28 hI28 hq hc28 hl28 hcells28
  cases hq
  refine o_buildSlice (xs := [(Go.Operand.const (Go.Value.int Go.IntKind.i64 1)), (Go.Operand.const (Go.Value.int Go.IntKind.i64 0))]) Try.underlying25 bs3 rfl rfl rfl rfl rfl (fun b29 => ?_)
  refine OpsJ.freezeRow Del.here ?_
  rintro I29 a29 c29 hI29 hq hc29 hl29 hcells29
  cases hq
  refine o_buildSlice (xs := [(Go.Operand.const (Go.Value.slice none 0 0)), (Go.Operand.tmp 27), (Go.Operand.tmp 28), (Go.Operand.tmp 29)]) Try.underlying36 bs25 rfl rfl rfl rfl rfl (fun b30 => ?_)
  refine OpsJ.freezeRow Del.here ?_
  rintro I30 a30 c30 hI30 hq hc30 hl30 hcells30
  cases hq
  have hrow30 : RowP I30 _ [[], [0], [1], [1, 0]] := RowP.snoc (RowP.snoc (RowP.snoc (RowP.snoc (RowP.nil _) (RInts.nil _)) ((RInts.lit (xs := [0]) hcells27 hc27 rfl).mono (Imm.le_trans hI28 (Imm.le_trans hI29 hI30)))) ((RInts.lit (xs := [1]) hcells28 hc28 rfl).mono (Imm.le_trans hI29 hI30))) ((RInts.lit (xs := [1, 0]) hcells29 hc29 rfl).mono hI30)
  refine op_call pl23 rfl rfl ((Same2_does _ (hv26.mono (Imm.le_trans hI27 (Imm.le_trans hI28 (Imm.le_trans hI29 hI30)))) (RPs.of rfl hc30 (by omega) hcells30 hrow30))) Parts.none ?_
  rintro v31 I31 _ hI31 ⟨rfl, rfl⟩
  have hd31 : decide (allT tA = [[], [0], [1], [1, 0]]) = true := by simp [allT, allL, tA]
  rw [hd31]
  refine op_v (v_move rfl) rfl ?_
  first
    | (refine op_want rfl rfl ?_
       refine op_v (v_move rfl) rfl ?_)
    | (refine op_skip rfl rfl (by simp [undef]) rfl ?_)
  first | refine op_v (v_pickt rfl rfl) rfl ?_ | refine op_v (v_pickf rfl rfl) rfl ?_ | refine op_v (v_pickb rfl rfl rfl) rfl ?_
  refine op_v (v_move rfl) rfl ?_
  first
    | (refine op_want rfl rfl ?_
       first | refine op_v (v_fieldB 0 Try.underlying24 rfl rfl fz3 rfl) rfl ?_ | refine op_v (v_fieldI 0 Try.underlying24 rfl rfl fz3 rfl (by assumption)) rfl ?_ | refine op_v (v_field Try.underlying24 rfl fz3 rfl rfl) rfl ?_)
    | (refine op_skip rfl rfl (by simp [undef]) rfl ?_)
  first
    | (refine op_want rfl rfl ?_
       refine op_v (v_load ty3 rfl (by first | exact Has.here | exact Has.there Has.here | exact Has.there (Has.there Has.here) | exact Has.there (Has.there (Has.there Has.here)) | exact Has.there (Has.there (Has.there (Has.there Has.here))) | exact Has.there (Has.there (Has.there (Has.there (Has.there Has.here)))) | exact Has.there (Has.there (Has.there (Has.there (Has.there (Has.there Has.here)))))) rfl) rfl ?_)
    | (refine op_skip rfl rfl (by simp [undef]) rfl ?_)
  first
    | (refine op_want rfl rfl ?_
       first | refine op_v (v_cmpt rfl rfl rfl (by first | omega | (simp; done) | (simp; omega))) rfl ?_ | refine op_v (v_cmpf rfl rfl rfl (by first | omega | (simp; done) | (simp; omega))) rfl ?_ | refine op_v (v_cmp rfl rfl rfl) rfl ?_)
    | (refine op_skip rfl rfl (by simp [undef]) rfl ?_)
  first | refine op_v (v_pickt rfl rfl) rfl ?_ | refine op_v (v_pickf rfl rfl) rfl ?_ | refine op_v (v_pickb rfl rfl rfl) rfl ?_
  refine op_v (v_move rfl) rfl ?_
  first
    | (refine op_want rfl rfl ?_
       refine op_v (v_move rfl) rfl ?_)
    | (refine op_skip rfl rfl (by simp [undef]) rfl ?_)
  first
    | (refine op_want rfl rfl ?_
       first | refine op_v (v_cmpt rfl rfl rfl (by first | omega | (simp; done) | (simp; omega))) rfl ?_ | refine op_v (v_cmpf rfl rfl rfl (by first | omega | (simp; done) | (simp; omega))) rfl ?_ | refine op_v (v_cmp rfl rfl rfl) rfl ?_)
    | (refine op_skip rfl rfl (by simp [undef]) rfl ?_)
  first | refine op_v (v_pickt rfl rfl) rfl ?_ | refine op_v (v_pickf rfl rfl) rfl ?_ | refine op_v (v_pickb rfl rfl rfl) rfl ?_
  refine op_v (v_move rfl) rfl ?_
  first
    | (refine op_want rfl rfl ?_
       first | refine op_v (v_fieldB 1 Try.underlying24 rfl rfl fz22 rfl) rfl ?_ | refine op_v (v_fieldI 1 Try.underlying24 rfl rfl fz22 rfl (by assumption)) rfl ?_ | refine op_v (v_field Try.underlying24 rfl fz22 rfl rfl) rfl ?_)
    | (refine op_skip rfl rfl (by simp [undef]) rfl ?_)
  first
    | (refine op_want rfl rfl ?_
       refine op_v (v_load ty22 rfl (by first | exact Has.here | exact Has.there Has.here | exact Has.there (Has.there Has.here) | exact Has.there (Has.there (Has.there Has.here)) | exact Has.there (Has.there (Has.there (Has.there Has.here))) | exact Has.there (Has.there (Has.there (Has.there (Has.there Has.here)))) | exact Has.there (Has.there (Has.there (Has.there (Has.there (Has.there Has.here)))))) rfl) rfl ?_)
    | (refine op_skip rfl rfl (by simp [undef]) rfl ?_)
  first
    | (refine op_want rfl rfl ?_
       refine op_v (v_len Try.underlying22 rfl) rfl ?_)
    | (refine op_skip rfl rfl (by simp [undef]) rfl ?_)
  first
    | (refine op_want rfl rfl ?_
       first | refine op_v (v_cmpt rfl rfl rfl (by first | omega | (simp; done) | (simp; omega))) rfl ?_ | refine op_v (v_cmpf rfl rfl rfl (by first | omega | (simp; done) | (simp; omega))) rfl ?_ | refine op_v (v_cmp rfl rfl rfl) rfl ?_)
    | (refine op_skip rfl rfl (by simp [undef]) rfl ?_)
  first | refine op_v (v_pickt rfl rfl) rfl ?_ | refine op_v (v_pickf rfl rfl) rfl ?_ | refine op_v (v_pickb rfl rfl rfl) rfl ?_
  refine op_v (v_move rfl) rfl ?_
  first
    | (refine op_want rfl rfl ?_
       first | refine op_v (v_fieldB 1 Try.underlying24 rfl rfl fz22 rfl) rfl ?_ | refine op_v (v_fieldI 1 Try.underlying24 rfl rfl fz22 rfl (by assumption)) rfl ?_ | refine op_v (v_field Try.underlying24 rfl fz22 rfl rfl) rfl ?_)
    | (refine op_skip rfl rfl (by simp [undef]) rfl ?_)
  first
    | (refine op_want rfl rfl ?_
       refine op_v (v_load ty22 rfl (by first | exact Has.here | exact Has.there Has.here | exact Has.there (Has.there Has.here) | exact Has.there (Has.there (Has.there Has.here)) | exact Has.there (Has.there (Has.there (Has.there Has.here))) | exact Has.there (Has.there (Has.there (Has.there (Has.there Has.here)))) | exact Has.there (Has.there (Has.there (Has.there (Has.there (Has.there Has.here)))))) rfl) rfl ?_)
    | (refine op_skip rfl rfl (by simp [undef]) rfl ?_)
  first
    | (refine op_want rfl rfl ?_
       first | refine op_v (v_index Try.underlying22 sz24 rfl rfl (by omega) (by assumption)) rfl ?_ | refine op_v (v_indexI Try.underlying22 sz24 rfl rfl (by first | omega | (simp; done) | (simp; omega)) (by first | omega | (simp; done) | (simp; omega)) (by assumption)) rfl ?_)
    | (refine op_skip rfl rfl (by simp [undef]) rfl ?_)
  first
    | (refine op_want rfl rfl ?_
       first | refine op_v (v_fieldB 0 Try.underlying24 rfl rfl fz3 rfl) rfl ?_ | refine op_v (v_fieldI 0 Try.underlying24 rfl rfl fz3 rfl (by assumption)) rfl ?_ | refine op_v (v_field Try.underlying24 rfl fz3 rfl rfl) rfl ?_)
    | (refine op_skip rfl rfl (by simp [undef]) rfl ?_)
  first
    | (refine op_want rfl rfl ?_
       first | refine op_v (v_loadI0 ty3 ((hat22' 0 (by simp)).mono (Imm.le_trans hI26 (Imm.le_trans hI27 (Imm.le_trans hI28 (Imm.le_trans hI29 (Imm.le_trans hI30 hI31)))))) rfl rfl rfl) rfl ?_ | refine op_v (v_loadI ty3 ((hat22' 0 (by simp)).mono (Imm.le_trans hI26 (Imm.le_trans hI27 (Imm.le_trans hI28 (Imm.le_trans hI29 (Imm.le_trans hI30 hI31)))))) rfl rfl rfl) rfl ?_)
    | (refine op_skip rfl rfl (by simp [undef]) rfl ?_)
  first
    | (refine op_want rfl rfl ?_
       first | refine op_v (v_cmpt rfl rfl rfl (by first | omega | (simp; done) | (simp; omega))) rfl ?_ | refine op_v (v_cmpf rfl rfl rfl (by first | omega | (simp; done) | (simp; omega))) rfl ?_ | refine op_v (v_cmp rfl rfl rfl) rfl ?_)
    | (refine op_skip rfl rfl (by simp [undef]) rfl ?_)
  first | refine op_v (v_pickt rfl rfl) rfl ?_ | refine op_v (v_pickf rfl rfl) rfl ?_ | refine op_v (v_pickb rfl rfl rfl) rfl ?_
  refine op_v (v_move rfl) rfl ?_
  first
    | (refine op_want rfl rfl ?_
       refine o_buildSlice (xs := [(Go.Operand.const (Go.Value.int Go.IntKind.i64 3))]) Try.underlying25 bs3 rfl rfl rfl rfl rfl (fun b59 => ?_)
       refine OpsJ.freezeRow Del.here ?_
       rintro I59 a59 c59 hI59 hq hc59 hl59 hcells59
       cases hq)
    | (refine op_skip rfl rfl (by simp [undef]) rfl ?_)
  first
    | (refine op_want rfl rfl ?_
       refine op_call pl27 rfl rfl ((Under_does _ (RInts.nil _) (RInts.lit (xs := [3]) hcells59 hc59 rfl))) Parts.none ?_
       rintro v60 I60 _ hI60 ⟨rfl, rfl⟩)
    | (refine op_skip rfl rfl (by simp [undef]) rfl ?_)
  first | refine op_v (v_pickt rfl rfl) rfl ?_ | refine op_v (v_pickf rfl rfl) rfl ?_ | refine op_v (v_pickb rfl rfl rfl) rfl ?_
  refine op_v (v_assign rfl) rfl ?_
  refine ops_nil ?_
  refine post_next ?_
  refine code_ret ?_
  refine post_ret (rs := [.tmp 0]) rfl (List.Perm.refl _) (.cons (.tmp rfl) .nil) (List.nil_sublist _) ?_
  exact ⟨rfl, rfl⟩
end Go.Proofs.Ytdcklngleglbbaa
