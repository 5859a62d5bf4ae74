/- Own texts, one behind the other: rules of a small program logic, walks through the program's functions, plain facts. No condition. -/
import Derived.Test.YtdbadicpbmndbaaGreatZ5
import Derived.WalkKit
import Derived.ProofKit
import Derived.OpenShut
import Derived.ShutString
import Derived.ChangeOld
import Derived.ChangeSlices
import Derived.Below
import Derived.Carry
import Derived.SizedLaws
/- Walks: the document's answers on literals; the statement on how two stand. -/
set_option linter.unusedVariables false
set_option linter.unusedSimpArgs false
set_option linter.unnecessarySimpa false
/- short -/
namespace Go.Proofs.YtdbadicpbmndbaaGreat
open Go Lg

theorem Rrow_does {I : Imm} {va : Value} {x : Li} (ha : RepL I va x) :
    Does Tryz.prog 118 [va] I [] (fun v I' δ' => RepS I' v (rowL x) ∧ δ' = []) := by
  obtain ⟨la, lc, ra, rc, rfl, hl, hr⟩ := ha
  refine Does.intro Tryz.func118 rfl Tryz.ntmps118 rfl fun w0 => ?_
  refine code_seq ?_
  refine code_region ?_
  refine o_box rfl rfl rfl (fun b1 => ?_)
  refine op_v (v_assign rfl) rfl ?_
  refine ops_nil ?_
  refine post_next ?_
  refine code_seq ?_
  refine code_seq ?_
  refine code_region ?_
  refine op_v (v_fieldB 0 Tryz.underlying59 rfl rfl fz4 rfl) rfl ?_
  refine op_v (v_loadA ty4 rfl rfl) rfl ?_
  refine ops_nil ?_
  refine post_next ?_
  refine code_cond rfl (fun hc0 => ?_) (fun hc0 => ?_)
  · have hn : x.neg = true := hc0
    refine code_seq ?_
    refine code_region ?_
    refine op_v (v_fieldB 1 Tryz.underlying59 rfl rfl fz48 rfl) rfl ?_
    refine op_v (v_loadA ty48 rfl rfl) rfl ?_
    refine op_v (v_fieldB 1 Tryz.underlying59 rfl rfl fz48 rfl) rfl ?_
    refine op_v (v_loadA ty48 rfl rfl) rfl ?_
    refine op_v (v_fieldB 3 Tryz.underlying59 rfl rfl fz48 rfl) rfl ?_
    refine op_v (v_loadA ty48 rfl rfl) rfl ?_
    refine op_v (v_fieldB 3 Tryz.underlying59 rfl rfl fz48 rfl) rfl ?_
    refine op_v (v_loadA ty48 rfl rfl) rfl ?_
    refine o_buildSlice (xs := [(Go.Operand.tmp 6), (Go.Operand.tmp 8), (Go.Operand.tmp 10), (Go.Operand.tmp 12)]) Tryz.underlying46 bs48 rfl rfl rfl rfl rfl (fun b13 => ?_)
    refine OpsJ.freezeRow Del.here ?_
    rintro I13 a13 c13 hI13 hq hc13 hl13 hcells13
    cases hq
    refine op_v (v_assign rfl) rfl ?_
    refine ops_nil ?_
    refine post_next ?_
    refine code_ret ?_
    refine post_ret_then ?_
    refine post_ret (rs := [.tmp 2]) rfl (List.Perm.refl _) (.cons (.tmp rfl) .nil) (List.nil_sublist _) ?_
    exact ⟨by unfold rowL; rw [if_pos hn]; exact RowT.repS (ts := [x.l, x.l, x.r, x.r]) rfl hcells13 ((RowT.one (hl.mono Imm.leA)).app ((RowT.one (hl.mono Imm.leA)).app ((RowT.one (hr.mono Imm.leA)).app (RowT.one (hr.mono Imm.leA))))) hc13 (by omega), rfl⟩
  · have hn : ¬ x.neg = true := by rw [hc0]; simp
    refine code_skip ?_
    refine post_next ?_
    refine code_seq ?_
    refine code_region ?_
    refine op_v (v_fieldB 1 Tryz.underlying59 rfl rfl fz48 rfl) rfl ?_
    refine op_v (v_loadA ty48 rfl rfl) rfl ?_
    refine op_v (v_fieldB 3 Tryz.underlying59 rfl rfl fz48 rfl) rfl ?_
    refine op_v (v_loadA ty48 rfl rfl) rfl ?_
    refine o_buildSlice (xs := [(Go.Operand.tmp 15), (Go.Operand.tmp 17)]) Tryz.underlying46 bs48 rfl rfl rfl rfl rfl (fun b18 => ?_)
    refine OpsJ.freezeRow Del.here ?_
    rintro I18 a18 c18 hI18 hq hc18 hl18 hcells18
    cases hq
    refine op_v (v_assign rfl) rfl ?_
    refine ops_nil ?_
    refine post_next ?_
    refine code_ret ?_
    refine post_ret (rs := [.tmp 2]) rfl (List.Perm.refl _) (.cons (.tmp rfl) .nil) (List.nil_sublist _) ?_
    exact ⟨by unfold rowL; rw [if_neg hn]; exact RowT.repS (ts := [x.l, x.r]) rfl hcells18 ((RowT.one (hl.mono Imm.leA)).app (RowT.one (hr.mono Imm.leA))) hc18 (by omega), rfl⟩
theorem RLStand_does {I : Imm} {vg va vb : Value} {gs : List Sy} {x y : Li} (hg : RepG I vg gs) (ha : RepL I va x) (hb : RepL I vb y) (hX : ∀ t ∈ rowL x, OkG gs t) (hY : ∀ t ∈ rowL y, OkG gs t) :
    Does Tryz.prog 72 [vg, va, vb] I [] (fun v _ δ' => v = .int .i64 (mulG gs (rowL x) (rowL y)) ∧ δ' = []) := by
  have ha0 := ha
  have hb0 := hb
  obtain ⟨la, lc, ra, rc, rfl, hl, hr⟩ := ha
  obtain ⟨ma, mc, na, nc, rfl, kl, kr⟩ := hb
  have hx1 := rowL_len x
  have hy1 := rowL_len y
  refine Does.intro Tryz.func72 rfl Tryz.ntmps72 rfl fun w0 => ?_
  refine code_seq ?_
  refine code_region ?_
  refine o_box rfl rfl rfl (fun b4 => ?_)
  refine o_box rfl rfl rfl (fun b5 => ?_)
  refine op_v (v_assign rfl) rfl ?_
  refine ops_nil ?_
  refine post_next ?_
  refine code_seq ?_
  refine code_draw (.fl 0 (.fl 1 (.fl 3 (.ef 2 (.ef 4 (.ef 5 (.ef 6 .done))))))) (fun _ => _) mixed (by kernel_rfl) (by kernel_rfl) (fun _ => (List.Sublist.refl _)) ?_
  refine e_fl rfl rfl (fun hs_ => PF.mk rfl (v_move rfl) hs_) ?_
  refine e_fl rfl rfl (fun hs_ => PF.mk rfl (v_loadA ty59 rfl rfl) hs_) ?_
  refine e_fl rfl rfl (fun hs_ => PF.mk rfl (v_loadA ty59 rfl rfl) hs_) ?_
  refine e_eff rfl (by intro cs b hc; cases hc) (by intro c hc; cases hc) ?_
  refine op_call pl118 rfl rfl ((Rrow_does (ha0.mono Imm.leA))) Parts.none ?_
  rintro v9 I9 _ hI9 ⟨hv9, rfl⟩
  refine ops_nil ?_
  refine e_next rfl side_allA ?_
  refine e_eff rfl (by intro cs b hc; cases hc) (by intro c hc; cases hc) ?_
  refine op_call pl118 rfl rfl ((Rrow_does (hb0.mono Imm.leA))) Parts.none ?_
  rintro v11 I11 _ hI11 ⟨hv11, rfl⟩
  refine ops_nil ?_
  refine e_next rfl side_allA ?_
  refine e_eff rfl (by intro cs b hc; cases hc) (by intro c hc; cases hc) ?_
  refine op_call pl117 rfl rfl ((Rows_does (hg.mono Imm.leA) (hv9.mono Imm.leA) (hv11.mono Imm.leA) hX hY (by omega) (by omega))) Parts.none ?_
  rintro _ I12 _ hI12 ⟨rfl, rfl⟩
  refine ops_nil ?_
  refine e_next rfl (side_nil (by kernel_rfl)) ?_
  refine e_eff rfl (by intro cs b hc; cases hc) (by intro c hc; cases hc) ?_
  refine op_v (v_assign rfl) rfl ?_
  refine ops_nil ?_
  refine e_next rfl (side_nil (by kernel_rfl)) ?_
  refine e_done ?_
  refine post_next ?_
  refine code_ret ?_
  refine post_ret (rs := [.tmp 6]) rfl (List.Perm.refl _) (.cons (.tmp rfl) .nil) (List.nil_sublist _) ?_
  exact ⟨rfl, rfl⟩
end Go.Proofs.YtdbadicpbmndbaaGreat
/- Walks: terms put into a literal, by the document; the statement on literals. -/
set_option linter.unusedVariables false
set_option linter.unusedSimpArgs false
set_option linter.unnecessarySimpa false
/- short -/
namespace Go.Proofs.YtdbadicpbmndbaaGreat
open Go Lg

theorem RRight1_does {I : Imm} {v : Value} {t : T} (hv : RepT I v t) (hbig : t.size ≤ 1000000000) :
    Does Tryz.prog 100 [v] I [] (fun v I' δ' => v = .bool (decide (chkT t = 0)) ∧ δ' = []) := by
  obtain ⟨a0, c0, rfl, hr0⟩ := hv.shape
  refine Does.intro Tryz.func100 rfl Tryz.ntmps100 rfl fun w0 => ?_
  refine code_seq ?_
  refine code_region ?_
  refine o_box rfl rfl rfl (fun b1 => ?_)
  refine op_v (v_assign rfl) rfl ?_
  refine ops_nil ?_
  refine post_next ?_
  refine code_seq ?_
  refine code_region ?_
  refine op_v (v_loadA ty48 rfl rfl) rfl ?_
  refine op_call pl133 rfl rfl ((RCheck_does (hv.mono Imm.leA) hbig)) Parts.none ?_
  rintro _ I4 _ hI4 ⟨rfl, rfl⟩
  refine op_v (v_cmp (z := decide (chkT t = 0)) rfl rfl rfl) rfl ?_
  refine op_v (v_assign rfl) rfl ?_
  refine ops_nil ?_
  refine post_next ?_
  refine code_ret ?_
  refine post_ret (rs := [.tmp 2]) rfl (List.Perm.refl _) (.cons (.tmp rfl) .nil) (List.nil_sublist _) ?_
  exact ⟨rfl, rfl⟩
theorem ROf_does {I : Imm} {v : Value} {bs : List Bi} {n : Int} (hv : RepB I v bs) (h0 : 0 ≤ n) (h1 : n ≤ 1000000) :
    Does Tryz.prog 159 [v, .int .i64 n] I [] (fun v I' δ' => RepT I' v ((ofB bs n).getD (.mk (-1 - n) [])) ∧ δ' = []) := by
  obtain ⟨ad, c, rfl⟩ := hv.shape
  obtain ⟨_, hc, hb, hr, ss, hat, hsub⟩ := hv.open
  refine Does.intro Tryz.func159 rfl Tryz.ntmps159 rfl fun w0 => ?_
  refine code_seq ?_
  refine code_region ?_
  refine o_alloc z48 rfl rfl (fun b4 => ?_)
  refine ops_nil ?_
  refine post_next ?_
  refine code_seq ?_
  refine code_seq ?_
  refine code_region ?_
  refine op_v (v_assign rfl) rfl ?_
  refine ops_nil ?_
  refine post_next ?_
  refine code_block ?_
  refine code_loop (fun m σ' I' δ' => ∃ k : Nat, m = bs.length - k ∧ k ≤ bs.length ∧ σ' = [(0, .slice ad bs.length c), (1, .int .i64 n), (4, .pointer (some ⟨b4, 0, none⟩)), (5, .int .i64 k)] ∧ I.le I' ∧ δ' = [.box b4 48 [.int .i64 0, .slice none 0 0]] ∧ ofB bs n = ofB (bs.drop k) n) bs.length [(0, .slice ad bs.length c), (1, .int .i64 n), (4, .pointer (some ⟨b4, 0, none⟩)), (5, .int .i64 (0 : Nat))] ⟨0, rfl, Nat.zero_le _, rfl, Imm.le_refl _, rfl, rfl⟩ ⟨rfl, rfl, rfl, rfl, trivial⟩ ?_
  rintro m _ I0 _ ⟨k, rfl, hk, rfl, hI0, rfl, hp⟩
  refine code_seq ?_
  refine code_seq ?_
  refine code_region ?_
  refine op_v (v_move rfl) rfl ?_
  refine op_v (v_move rfl) rfl ?_
  refine op_v (v_len Tryz.underlying24 rfl) rfl ?_
  refine op_v (v_cmp rfl rfl rfl) rfl ?_
  refine ops_nil ?_
  refine post_next ?_
  refine code_cond rfl (fun hc0 => ?_) (fun hc0 => ?_)
  · have hlt : k < bs.length := by simpa using hc0
    have hs1 := (hat k hlt).isSome
    rw [List.drop_eq_getElem_cons hlt] at hp
    have hq : ofB (bs[k] :: bs.drop (k + 1)) n = if bs[k].1 = n then some bs[k].2 else ofB (bs.drop (k + 1)) n := rfl
    refine code_skip ?_
    refine post_next ?_
    refine code_seq ?_
    refine code_block ?_
    refine code_seq ?_
    refine code_region ?_
    refine op_v (v_move rfl) rfl ?_
    refine op_v (v_move rfl) rfl ?_
    refine op_v (v_indexA Tryz.underlying24 sz50 rfl rfl) rfl ?_
    refine op_v (v_fieldI 0 Tryz.underlying50 rfl rfl fz3 rfl (by assumption)) rfl ?_
    refine op_v (v_loadI0 ty3 ((hat k hlt).mono hI0) rfl rfl rfl) rfl ?_
    refine op_v (v_move rfl) rfl ?_
    by_cases h18 : bs[k].1 = n
    · refine op_v (v_cmptA rfl rfl rfl) rfl ?_
      refine ops_nil ?_
      refine post_next ?_
      refine code_cond_t rfl ?_
      refine code_seq ?_
      refine code_region ?_
      refine op_v (v_move rfl) rfl ?_
      refine op_v (v_move rfl) rfl ?_
      refine op_v (v_indexA Tryz.underlying24 sz50 rfl rfl) rfl ?_
      refine op_v (v_fieldI 1 Tryz.underlying50 rfl rfl fz48 rfl (by assumption)) rfl ?_
      refine op_v (v_loadI ty48 ((hat k hlt).mono hI0) rfl rfl rfl) rfl ?_
      refine o_store ty48 rfl rfl rfl rfl rfl (by repeat (first | exact Swap.here | apply Swap.there)) rfl ?_
      refine ops_nil ?_
      refine post_next ?_
      refine code_ret ?_
      refine post_ret_block ?_
      refine post_ret_then ?_
      refine post_ret_then ?_
      refine post_ret_block ?_
      refine post_ret_then ?_
      refine post_ret (rs := [.cell 4 48]) rfl (List.Perm.refl _) (.cons (.cell rfl ty48 (by repeat (first | exact Has.here | apply Has.there)) rfl) .nil) (List.nil_sublist _) ?_
      exact ⟨by rw [hp, hq, if_pos h18]; exact (hsub k hlt).mono Imm.leA, rfl⟩
    · refine op_v (v_cmpfA rfl rfl rfl) rfl ?_
      refine ops_nil ?_
      refine post_next ?_
      refine code_cond_f rfl ?_
      refine code_skip ?_
      refine post_out ?_
      refine post_next ?_
      refine code_region ?_
      refine op_v (v_move rfl) rfl ?_
      refine op_v (v_addb rfl rfl rfl (by omega)) rfl ?_
      refine op_v (v_assign rfl) rfl ?_
      refine ops_nil ?_
      refine post_again (bs.length - (k + 1)) [(0, .slice ad bs.length c), (1, .int .i64 n), (4, .pointer (some ⟨b4, 0, none⟩)), (5, .int .i64 (k + 1 : Nat))] (by omega) ⟨k + 1, rfl, hlt, rfl, Imm.leA, rfl, by rw [hp, hq, if_neg h18]⟩ ⟨rfl, rfl, rfl, rfl, trivial⟩
  · have hge : k = bs.length := by simp at hc0; omega
    rw [hge, List.drop_length] at hp
    refine code_exit ?_
    refine post_exit_then ?_
    refine post_exit_then ?_
    refine post_exit ?_
    refine post_next ?_
    refine code_seq ?_
    refine code_region ?_
    refine op_v (v_move rfl) rfl ?_
    refine op_call pl59 rfl rfl ((Var_does (by omega) (by omega))) Parts.none ?_
    rintro v25 I25 _ hI25 ⟨hv25, rfl⟩
    obtain ⟨a25, c25, rfl, _⟩ := hv25.shape
    refine o_store ty48 rfl rfl rfl rfl rfl (by repeat (first | exact Swap.here | apply Swap.there)) rfl ?_
    refine ops_nil ?_
    refine post_next ?_
    refine code_ret ?_
    refine post_ret (rs := [.cell 4 48]) rfl (List.Perm.refl _) (.cons (.cell rfl ty48 (by repeat (first | exact Has.here | apply Has.there)) rfl) .nil) (List.nil_sublist _) ?_
    exact ⟨by rw [hp]; exact hv25, rfl⟩
theorem chk_head9 {h : Int} {ts : List T} (hc : chkT (.mk h ts) = 0) : -256 ≤ h := (chk_vis hc (true, .mk h ts) (by rw [visT_eq]; exact List.mem_cons_self ..)).2
theorem RPut_does {bs : List Bi} : ∀ (n : Nat) (t : T), t.size ≤ n → chkT t = 0 → ∀ (I : Imm) (vs v : Value), RepB I vs bs → RepT I v t →
    Does Tryz.prog 132 [vs, v] I [] (fun v I' δ' => RepT I' v (sbT bs t) ∧ δ' = []) := by
  intro n
  induction n with
  | zero => intro t ht; have := t.size_pos; omega
  | succ n ih =>
    intro t ht hck I vs v hs hv
    obtain ⟨h, ts⟩ := t
    obtain ⟨sa, sc, rfl⟩ := hs.shape
    obtain ⟨ad, c, ss, rfl, hr, hc, hb, hat, hsub⟩ := hv.elim
    have hsz : (T.mk h ts).size = 1 + sizeL ts := by simp [T.size]
    obtain ⟨hlf, hch⟩ := chkT_args hck
    have hh := chk_head9 hck
    refine Does.intro Tryz.func132 rfl Tryz.ntmps132 rfl fun w0 => ?_
    refine code_seq ?_
    refine code_region ?_
    refine o_box rfl rfl rfl (fun b3 => ?_)
    refine o_alloc z48 rfl rfl (fun b4 => ?_)
    refine ops_nil ?_
    refine post_next ?_
    refine code_seq ?_
    refine code_seq ?_
    refine code_region ?_
    refine op_v (v_fieldB 0 Tryz.underlying48 rfl rfl fz3 rfl) rfl ?_
    refine op_v (v_loadA ty3 rfl rfl) rfl ?_
    by_cases hneg : h < 0
    · refine op_v (v_cmptA rfl rfl rfl) rfl ?_
      refine ops_nil ?_
      refine post_next ?_
      refine code_cond_t rfl ?_
      refine code_seq ?_
      refine code_region ?_
      refine op_v (v_move rfl) rfl ?_
      refine op_v (v_fieldB 0 Tryz.underlying48 rfl rfl fz3 rfl) rfl ?_
      refine op_v (v_loadA ty3 rfl rfl) rfl ?_
      refine op_v (v_subb rfl rfl rfl (by omega)) rfl ?_
      refine op_call pl159 rfl rfl ((ROf_does (n := -1 - h) (hs.mono Imm.leA) (by omega) (by omega))) Parts.none ?_
      rintro v14 I14 _ hI14 ⟨hv14, rfl⟩
      rw [show -1 - (-1 - h) = h by omega] at hv14
      obtain ⟨a14, c14, rfl, _⟩ := hv14.shape
      refine o_store ty48 rfl rfl rfl rfl rfl (by repeat (first | exact Swap.here | apply Swap.there)) rfl ?_
      refine ops_nil ?_
      refine post_next ?_
      refine code_ret ?_
      refine post_ret_then ?_
      refine post_ret (rs := [.cell 4 48]) rfl (List.Perm.refl _) (.cons (.cell rfl ty48 (by repeat (first | exact Has.here | apply Has.there)) rfl) .nil) (List.nil_sublist _) ?_
      have hl := hlf hneg
      subst hl
      exact ⟨by unfold sbT; simp only [rbT]; rw [if_pos hneg]; unfold ofT; exact hv14, rfl⟩
    · refine op_v (v_cmpfA rfl rfl rfl) rfl ?_
      refine ops_nil ?_
      refine post_next ?_
      refine code_cond_f rfl ?_
      refine code_skip ?_
      refine post_next ?_
      refine code_seq ?_
      refine code_region ?_
      refine op_v (v_fieldB 0 Tryz.underlying48 rfl rfl fz3 rfl) rfl ?_
      refine op_v (v_loadA ty3 rfl rfl) rfl ?_
      refine op_v (v_build bl48 rfl rfl) rfl ?_
      refine o_alloc z48 rfl rfl (fun b5 => ?_)
      refine o_store ty48 rfl rfl rfl rfl rfl (by repeat (first | exact Swap.here | apply Swap.there)) rfl ?_
      refine ops_nil ?_
      refine post_next ?_
      refine code_seq ?_
      refine code_seq ?_
      refine code_region ?_
      refine op_v (v_assign rfl) rfl ?_
      refine ops_nil ?_
      refine post_next ?_
      refine code_block ?_
      refine CodeJ.view (View.nilRow 48 2) ?_
      refine code_loop (fun m σ' I' δ' => ∃ (k : Nat) (ar : Option Addr) (cr : Nat) (xs : List Value), m = ts.length - k ∧ k ≤ ts.length ∧ σ' = [(0, .slice sa bs.length sc), (3, .pointer (some ⟨b3, 0, none⟩)), (4, .pointer (some ⟨b4, 0, none⟩)), (5, .pointer (some ⟨b5, 0, none⟩)), (6, .int .i64 k)] ∧ I.le I' ∧ δ' = [.row (.slice ar k cr) 48 2 k xs, .box b5 48 [.int .i64 h, .slice ar k cr], .box b4 48 [.int .i64 0, .slice none 0 0], .box b3 48 [.int .i64 h, .slice ad ts.length c]] ∧ RowT I' xs (rbL (ofT bs) (ts.take k))) ts.length [(0, .slice sa bs.length sc), (3, .pointer (some ⟨b3, 0, none⟩)), (4, .pointer (some ⟨b4, 0, none⟩)), (5, .pointer (some ⟨b5, 0, none⟩)), (6, .int .i64 (0 : Nat))] ⟨0, none, 0, [], rfl, Nat.zero_le _, rfl, Imm.le_refl _, rfl, RowT.nil _⟩ ⟨rfl, rfl, rfl, rfl, rfl, trivial⟩ ?_
      rintro m _ I0 _ ⟨k, ar, cr, xs, rfl, hk, rfl, hI0, rfl, hp⟩
      refine code_seq ?_
      refine code_seq ?_
      refine code_region ?_
      refine op_v (v_move rfl) rfl ?_
      refine op_v (v_fieldB 1 Tryz.underlying48 rfl rfl fz46 rfl) rfl ?_
      refine op_v (v_loadA ty46 rfl rfl) rfl ?_
      refine op_v (v_len Tryz.underlying46 rfl) rfl ?_
      refine op_v (v_cmp rfl rfl rfl) rfl ?_
      refine ops_nil ?_
      refine post_next ?_
      refine code_cond rfl (fun hc1 => ?_) (fun hc1 => ?_)
      · have hlt : k < ts.length := by simpa using hc1
        have hs1 := (hat k hlt).isSome
        have hm := sizeL_mem ts k hlt
        refine code_skip ?_
        refine post_next ?_
        refine code_seq ?_
        refine code_block ?_
        refine code_draw (.fl 0 (.fl 1 (.fl 2 (.fl 3 (.fl 4 (.fl 5 (.fl 6 (.fl 7 (.ef 8 (.ef 9 (.ef 10 (.fl 11 (.ef 12 .done))))))))))))) (fun _ => [.box b5 48 [.int .i64 h, .slice ar k cr], .box b4 48 [.int .i64 0, .slice none 0 0], .box b3 48 [.int .i64 h, .slice ad ts.length c]]) mixed (by kernel_rfl) (by kernel_rfl) (fun _ => (List.Sublist.cons _ (List.Sublist.refl _))) ?_
        refine e_fl rfl rfl (fun hs_ => PF.mk rfl (v_fieldB 1 Tryz.underlying48 rfl rfl fz46 rfl) hs_) ?_
        refine e_fl rfl rfl (fun hs_ => PF.mk rfl (v_loadA ty46 rfl rfl) hs_) ?_
        refine e_fl rfl rfl (fun hs_ => PF.mk rfl (v_move rfl) hs_) ?_
        refine e_fl rfl rfl (fun hs_ => PF.mk rfl (v_fieldB 1 Tryz.underlying48 rfl rfl fz46 rfl) hs_) ?_
        refine e_fl rfl rfl (fun hs_ => PF.mk rfl (v_loadA ty46 rfl rfl) hs_) ?_
        refine e_fl rfl rfl (fun hs_ => PF.mk rfl (v_move rfl) hs_) ?_
        refine e_fl rfl rfl (fun hs_ => PF.mk rfl (v_indexA Tryz.underlying46 sz48 rfl rfl) hs_) ?_
        refine e_fl rfl rfl (fun hs_ => PF.mk rfl (v_loadI0 ty48 ((hat k hlt).mono hI0) rfl rfl rfl) hs_) ?_
        refine e_eff rfl (by intro cs b hc; cases hc) (by intro c hc; cases hc) ?_
        refine op_call pl132 rfl rfl ((ih ts[k] (by omega) (hch k hlt) _ _ _ (hs.mono hI0) ((hsub k hlt).mono hI0))) Parts.none ?_
        rintro v33 I33 _ hI33 ⟨hv33, rfl⟩
        obtain ⟨p33, q33, rfl, _⟩ := hv33.shape
        refine ops_nil ?_
        refine e_next rfl side_allA ?_
        refine e_eff rfl (by intro cs b hc; cases hc) (by intro c hc; cases hc) ?_
        refine o_buildSlice (xs := [(Go.Operand.tmp 33)]) Tryz.underlying46 bs48 rfl rfl rfl rfl rfl (fun b34 => ?_)
        refine ops_nil ?_
        refine e_next rfl side_allA ?_
        refine e_eff rfl (by intro cs b hc; cases hc) (by intro c hc; cases hc) ?_
        refine o_append Tryz.underlying46 bs48 rfl rfl rfl (fun v' => by repeat (first | exact Swap.here | apply Swap.there)) (Src.ofRow (by repeat (first | exact Has.here | apply Has.there)) rfl) (by first | rfl | omega | simp) (by simp [cat, cellsL, Value.oneCell']) (by omega) (by omega) (fun a35 c35 => ?_)
        refine ops_nil ?_
        refine e_next rfl side_allA ?_
        refine e_fl rfl rfl (fun hs_ => PF.mk rfl (v_fieldB 1 Tryz.underlying48 rfl rfl fz46 rfl) hs_) ?_
        refine e_eff rfl (by intro cs b hc; cases hc) (by intro c hc; cases hc) ?_
        refine o_store ty46 rfl rfl rfl rfl rfl (by repeat (first | exact Swap.here | apply Swap.there)) rfl ?_
        refine ops_nil ?_
        refine e_next_ (side_nil (by kernel_rfl)) ?_
        refine e_done ?_
        refine post_out ?_
        refine post_next ?_
        refine code_region ?_
        refine op_v (v_move rfl) rfl ?_
        refine op_v (v_addb rfl rfl rfl (by omega)) rfl ?_
        refine op_v (v_assign rfl) rfl ?_
        refine ops_nil ?_
        refine PostJ.view (View.drop Del.here) ?_
        refine post_again (ts.length - (k + 1)) [(0, .slice sa bs.length sc), (3, .pointer (some ⟨b3, 0, none⟩)), (4, .pointer (some ⟨b4, 0, none⟩)), (5, .pointer (some ⟨b5, 0, none⟩)), (6, .int .i64 ((k + 1 : Nat) : Int))] (by omega) ⟨k + 1, a35, c35, xs ++ [.int .i64 (sbT bs ts[k]).head, .slice p33 (sbT bs ts[k]).args.length q33], rfl, hlt, rfl, Imm.le_trans hI0 hI33, rfl, ?_⟩ ⟨rfl, rfl, rfl, rfl, rfl, trivial⟩
        rw [rbL_take (ofT bs) ts k hlt]
        exact (hp.mono hI33).app (RowT.one hv33)
      · have hge : k = ts.length := by simp at hc1; omega
        subst hge
        rw [List.take_length] at hp
        refine code_exit ?_
        refine post_exit_then ?_
        refine post_exit_then ?_
        refine post_exit ?_
        refine post_next ?_
        refine code_seq ?_
        refine code_region ?_
        refine OpsJ.freezeRow Del.here ?_
        rintro I37 ar2 cr2 hI37 hvr hcr hlr hcells
        cases hvr
        refine op_v (v_loadA ty48 rfl rfl) rfl ?_
        refine o_store ty48 rfl rfl rfl rfl rfl (by repeat (first | exact Swap.here | apply Swap.there)) rfl ?_
        refine ops_nil ?_
        refine post_next ?_
        refine code_ret ?_
        refine post_ret (rs := [.cell 4 48]) rfl (List.Perm.refl _) (.cons (.cell rfl ty48 (by repeat (first | exact Has.here | apply Has.there)) rfl) .nil) (List.nil_sublist _) ?_
        exact ⟨by unfold sbT; simp only [rbT]; rw [if_neg hneg]; have hl := rbL_len (ofT bs) ts; have := RowT.rep (h := h) hcells (hp.mono hI37) hr (by rw [hl]; exact hcr) (by rw [hl]; exact hb); rw [hl] at this; exact this, rfl⟩
theorem Rend_does {I : Imm} {v : Value} {t : T} (hv : RepT I v t) (hbig : t.size ≤ 1000000000) :
    Does Tryz.prog 102 [v] I [] (fun v I' δ' => (∃ u, v = .tuple #[u, .int .i64 (chkT t)] ∧ RepT I' u (if chkT t = 0 then t else zeroT)) ∧ δ' = []) := by
  obtain ⟨a0, c0, rfl, hr0⟩ := hv.shape
  refine Does.intro Tryz.func102 rfl Tryz.ntmps102 rfl fun w0 => ?_
  refine code_seq ?_
  refine code_region ?_
  refine o_box rfl rfl rfl (fun b1 => ?_)
  refine o_alloc z48 rfl rfl (fun b2 => ?_)
  refine op_v (v_assign rfl) rfl ?_
  refine ops_nil ?_
  refine post_next ?_
  refine code_seq ?_
  refine code_region ?_
  refine op_v (v_loadA ty48 rfl rfl) rfl ?_
  refine op_call pl133 rfl rfl ((RCheck_does (hv.mono Imm.leA) hbig)) Parts.none ?_
  rintro _ I6 _ hI6 ⟨rfl, rfl⟩
  refine op_v (v_assign rfl) rfl ?_
  refine ops_nil ?_
  refine post_next ?_
  refine code_seq ?_
  refine code_seq ?_
  refine code_region ?_
  refine op_v (v_move rfl) rfl ?_
  by_cases h8 : chkT t ≠ 0
  · refine op_v (v_cmptA rfl rfl rfl) rfl ?_
    refine ops_nil ?_
    refine post_next ?_
    refine code_cond_t rfl ?_
    refine code_seq ?_
    refine code_region ?_
    refine op_v (v_build bl48 rfl rfl) rfl ?_
    refine op_v (v_move rfl) rfl ?_
    refine o_store ty48 rfl rfl rfl rfl rfl (by repeat (first | exact Swap.here | apply Swap.there)) rfl ?_
    refine op_v (v_assign rfl) rfl ?_
    refine ops_nil ?_
    refine post_next ?_
    refine code_ret ?_
    refine post_ret_then ?_
    refine post_ret (rs := [.cell 2 48, .tmp 3]) rfl (List.Perm.refl _) (.cons (.cell rfl ty48 (by repeat (first | exact Has.here | apply Has.there)) rfl) (.cons (.tmp rfl) .nil)) (List.nil_sublist _) ?_
    exact ⟨⟨_, rfl, by rw [if_neg h8]; exact zeroT_rep _⟩, rfl⟩
  · refine op_v (v_cmpfA rfl rfl rfl) rfl ?_
    refine ops_nil ?_
    refine post_next ?_
    refine code_cond_f rfl ?_
    refine code_skip ?_
    refine post_next ?_
    refine code_seq ?_
    refine code_region ?_
    refine op_v (v_loadA ty48 rfl rfl) rfl ?_
    refine o_store ty48 rfl rfl rfl rfl rfl (by repeat (first | exact Swap.here | apply Swap.there)) rfl ?_
    refine op_v (v_assign rfl) rfl ?_
    refine ops_nil ?_
    refine post_next ?_
    refine code_ret ?_
    refine post_ret (rs := [.cell 2 48, .tmp 3]) rfl (List.Perm.refl _) (.cons (.cell rfl ty48 (by repeat (first | exact Has.here | apply Has.there)) rfl) (.cons (.tmp rfl) .nil)) (List.nil_sublist _) ?_
    have h0 : chkT t = 0 := by omega
    exact ⟨⟨_, by rw [h0]; rfl, by rw [if_pos h0]; exact hv.mono Imm.leA⟩, rfl⟩
theorem sides_does {I : Imm} {va vb : Value} {x y : Li} (ha : RepL I va x) (hb : RepL I vb y) (h1 : x.l.size ≤ 1000000000) (h2 : x.r.size ≤ 1000000000) (h3 : y.l.size ≤ 1000000000) (h4 : y.r.size ≤ 1000000000) :
    Does Tryz.prog 157 [va, vb] I [] (fun v _ δ' => v = .bool (eqL x y) ∧ δ' = []) := by
  obtain ⟨la, lc, ra, rc, rfl, hl, hr⟩ := ha
  obtain ⟨ma, mc, na, nc, rfl, kl, kr⟩ := hb
  refine Does.intro Tryz.func157 rfl Tryz.ntmps157 rfl fun w0 => ?_
  refine code_seq ?_
  refine code_region ?_
  refine o_box rfl rfl rfl (fun b2 => ?_)
  refine o_box rfl rfl rfl (fun b3 => ?_)
  refine op_v (v_assign rfl) rfl ?_
  refine ops_nil ?_
  refine post_next ?_
  refine code_seq ?_
  refine code_region ?_
  refine op_v (v_fieldB 1 Tryz.underlying59 rfl rfl fz48 rfl) rfl ?_
  refine op_v (v_loadA ty48 rfl rfl) rfl ?_
  refine op_v (v_fieldB 1 Tryz.underlying59 rfl rfl fz48 rfl) rfl ?_
  refine op_v (v_loadA ty48 rfl rfl) rfl ?_
  refine op_call pl108 rfl rfl ((Same_does _ _ _ _ _ (hl.mono Imm.leA) (kl.mono Imm.leA) h1 h3)) Parts.none ?_
  rintro _ I9 _ hI9 ⟨rfl, rfl⟩
  by_cases e1 : x.l = y.l
  · rw [show decide (x.l = y.l) = true by simpa using e1]
    refine op_v (v_move rfl) rfl ?_
    first
      | (refine op_want rfl rfl ?_
         refine op_v (v_fieldB 3 Tryz.underlying59 rfl rfl fz48 rfl) rfl ?_)
      | (refine op_skip rfl rfl (by simp [undef]) rfl ?_)
    refine op_want rfl rfl ?_
    refine op_v (v_loadA ty48 rfl rfl) rfl ?_
    first
      | (refine op_want rfl rfl ?_
         refine op_v (v_fieldB 3 Tryz.underlying59 rfl rfl fz48 rfl) rfl ?_)
      | (refine op_skip rfl rfl (by simp [undef]) rfl ?_)
    refine op_want rfl rfl ?_
    refine op_v (v_loadA ty48 rfl rfl) rfl ?_
    refine op_want rfl rfl ?_
    refine op_call pl108 rfl rfl ((Same_does _ _ _ _ _ (hr.mono Imm.leA) (kr.mono Imm.leA) h2 h4)) Parts.none ?_
    rintro _ I15 _ hI15 ⟨rfl, rfl⟩
    by_cases e2 : x.r = y.r
    · rw [show decide (x.r = y.r) = true by simpa using e2]
      refine op_v (v_pickt rfl rfl) rfl ?_
      refine op_v (v_move rfl) rfl ?_
      refine op_skip rfl rfl (by simp [undef]) rfl ?_
      refine op_skip rfl rfl (by simp [undef]) rfl ?_
      refine op_skip rfl rfl (by simp [undef]) rfl ?_
      refine op_skip rfl rfl (by simp [undef]) rfl ?_
      refine op_skip rfl rfl (by simp [undef]) rfl ?_
      refine op_skip rfl rfl (by simp [undef]) rfl ?_
      refine op_skip rfl rfl (by simp [undef]) rfl ?_
      refine op_skip rfl rfl (by simp [undef]) rfl ?_
      refine op_skip rfl rfl (by simp [undef]) rfl ?_
      refine op_skip rfl rfl (by simp [undef]) rfl ?_
      refine op_skip rfl rfl (by simp [undef]) rfl ?_
      refine op_skip rfl rfl (by simp [undef]) rfl ?_
      refine op_v (v_pickt rfl rfl) rfl ?_
      refine op_v (v_assign rfl) rfl ?_
      refine ops_nil ?_
      refine post_next ?_
      refine code_ret ?_
      refine post_ret (rs := [.tmp 4]) rfl (List.Perm.refl _) (.cons (.tmp rfl) .nil) (List.nil_sublist _) ?_
      exact ⟨by simp [outV, eqL, e1, e2], rfl⟩
    · rw [show decide (x.r = y.r) = false by simpa using e2]
      refine op_v (v_pickt rfl rfl) rfl ?_
      refine op_v (v_move rfl) rfl ?_
      first
        | (refine op_want rfl rfl ?_
           refine op_v (v_fieldB 1 Tryz.underlying59 rfl rfl fz48 rfl) rfl ?_)
        | (refine op_skip rfl rfl (by simp [undef]) rfl ?_)
      refine op_want rfl rfl ?_
      refine op_v (v_loadA ty48 rfl rfl) rfl ?_
      first
        | (refine op_want rfl rfl ?_
           refine op_v (v_fieldB 3 Tryz.underlying59 rfl rfl fz48 rfl) rfl ?_)
        | (refine op_skip rfl rfl (by simp [undef]) rfl ?_)
      refine op_want rfl rfl ?_
      refine op_v (v_loadA ty48 rfl rfl) rfl ?_
      refine op_want rfl rfl ?_
      refine op_call pl108 rfl rfl ((Same_does _ _ _ _ _ (hl.mono Imm.leA) (kr.mono Imm.leA) h1 h4)) Parts.none ?_
      rintro _ I22 _ hI22 ⟨rfl, rfl⟩
      by_cases e3 : x.l = y.r
      · rw [show decide (x.l = y.r) = true by simpa using e3]
        refine op_want rfl rfl ?_
        refine op_v (v_move rfl) rfl ?_
        first
          | (refine op_want rfl rfl ?_
             refine op_v (v_fieldB 3 Tryz.underlying59 rfl rfl fz48 rfl) rfl ?_)
          | (refine op_skip rfl rfl (by simp [undef]) rfl ?_)
        refine op_want rfl rfl ?_
        refine op_v (v_loadA ty48 rfl rfl) rfl ?_
        first
          | (refine op_want rfl rfl ?_
             refine op_v (v_fieldB 1 Tryz.underlying59 rfl rfl fz48 rfl) rfl ?_)
          | (refine op_skip rfl rfl (by simp [undef]) rfl ?_)
        refine op_want rfl rfl ?_
        refine op_v (v_loadA ty48 rfl rfl) rfl ?_
        refine op_want rfl rfl ?_
        refine op_call pl108 rfl rfl ((Same_does _ _ _ _ _ (hr.mono Imm.leA) (kl.mono Imm.leA) h2 h3)) Parts.none ?_
        rintro _ I28 _ hI28 ⟨rfl, rfl⟩
        first
          | (refine op_want rfl rfl ?_
             refine op_v (v_pickt rfl rfl) rfl ?_)
          | (refine op_skip rfl rfl (by simp [undef]) rfl ?_)
        refine op_v (v_pickf rfl rfl) rfl ?_
        refine op_v (v_assign rfl) rfl ?_
        refine ops_nil ?_
        refine post_next ?_
        refine code_ret ?_
        refine post_ret (rs := [.tmp 4]) rfl (List.Perm.refl _) (.cons (.tmp rfl) .nil) (List.nil_sublist _) ?_
        exact ⟨by unfold eqL; simp_all [outV], rfl⟩
      · rw [show decide (x.l = y.r) = false by simpa using e3]
        refine op_want rfl rfl ?_
        refine op_v (v_move rfl) rfl ?_
        refine op_skip rfl rfl (by simp [undef]) rfl ?_
        refine op_skip rfl rfl (by simp [undef]) rfl ?_
        refine op_skip rfl rfl (by simp [undef]) rfl ?_
        refine op_skip rfl rfl (by simp [undef]) rfl ?_
        refine op_skip rfl rfl (by simp [undef]) rfl ?_
        first
          | (refine op_want rfl rfl ?_
             refine op_v (v_pickf rfl rfl) rfl ?_)
          | (refine op_skip rfl rfl (by simp [undef]) rfl ?_)
        refine op_v (v_pickf rfl rfl) rfl ?_
        refine op_v (v_assign rfl) rfl ?_
        refine ops_nil ?_
        refine post_next ?_
        refine code_ret ?_
        refine post_ret (rs := [.tmp 4]) rfl (List.Perm.refl _) (.cons (.tmp rfl) .nil) (List.nil_sublist _) ?_
        exact ⟨by unfold eqL; simp_all [outV], rfl⟩
  · rw [show decide (x.l = y.l) = false by simpa using e1]
    refine op_v (v_move rfl) rfl ?_
    refine op_skip rfl rfl (by simp [undef]) rfl ?_
    refine op_skip rfl rfl (by simp [undef]) rfl ?_
    refine op_skip rfl rfl (by simp [undef]) rfl ?_
    refine op_skip rfl rfl (by simp [undef]) rfl ?_
    refine op_skip rfl rfl (by simp [undef]) rfl ?_
    refine op_v (v_pickf rfl rfl) rfl ?_
    refine op_v (v_move rfl) rfl ?_
    first
      | (refine op_want rfl rfl ?_
         refine op_v (v_fieldB 1 Tryz.underlying59 rfl rfl fz48 rfl) rfl ?_)
      | (refine op_skip rfl rfl (by simp [undef]) rfl ?_)
    refine op_want rfl rfl ?_
    refine op_v (v_loadA ty48 rfl rfl) rfl ?_
    first
      | (refine op_want rfl rfl ?_
         refine op_v (v_fieldB 3 Tryz.underlying59 rfl rfl fz48 rfl) rfl ?_)
      | (refine op_skip rfl rfl (by simp [undef]) rfl ?_)
    refine op_want rfl rfl ?_
    refine op_v (v_loadA ty48 rfl rfl) rfl ?_
    refine op_want rfl rfl ?_
    refine op_call pl108 rfl rfl ((Same_does _ _ _ _ _ (hl.mono Imm.leA) (kr.mono Imm.leA) h1 h4)) Parts.none ?_
    rintro _ I22 _ hI22 ⟨rfl, rfl⟩
    by_cases e3 : x.l = y.r
    · rw [show decide (x.l = y.r) = true by simpa using e3]
      refine op_want rfl rfl ?_
      refine op_v (v_move rfl) rfl ?_
      first
        | (refine op_want rfl rfl ?_
           refine op_v (v_fieldB 3 Tryz.underlying59 rfl rfl fz48 rfl) rfl ?_)
        | (refine op_skip rfl rfl (by simp [undef]) rfl ?_)
      refine op_want rfl rfl ?_
      refine op_v (v_loadA ty48 rfl rfl) rfl ?_
      first
        | (refine op_want rfl rfl ?_
           refine op_v (v_fieldB 1 Tryz.underlying59 rfl rfl fz48 rfl) rfl ?_)
        | (refine op_skip rfl rfl (by simp [undef]) rfl ?_)
      refine op_want rfl rfl ?_
      refine op_v (v_loadA ty48 rfl rfl) rfl ?_
      refine op_want rfl rfl ?_
      refine op_call pl108 rfl rfl ((Same_does _ _ _ _ _ (hr.mono Imm.leA) (kl.mono Imm.leA) h2 h3)) Parts.none ?_
      rintro _ I28 _ hI28 ⟨rfl, rfl⟩
      first
        | (refine op_want rfl rfl ?_
           refine op_v (v_pickt rfl rfl) rfl ?_)
        | (refine op_skip rfl rfl (by simp [undef]) rfl ?_)
      refine op_v (v_pickf rfl rfl) rfl ?_
      refine op_v (v_assign rfl) rfl ?_
      refine ops_nil ?_
      refine post_next ?_
      refine code_ret ?_
      refine post_ret (rs := [.tmp 4]) rfl (List.Perm.refl _) (.cons (.tmp rfl) .nil) (List.nil_sublist _) ?_
      exact ⟨by unfold eqL; simp_all [outV], rfl⟩
    · rw [show decide (x.l = y.r) = false by simpa using e3]
      refine op_want rfl rfl ?_
      refine op_v (v_move rfl) rfl ?_
      refine op_skip rfl rfl (by simp [undef]) rfl ?_
      refine op_skip rfl rfl (by simp [undef]) rfl ?_
      refine op_skip rfl rfl (by simp [undef]) rfl ?_
      refine op_skip rfl rfl (by simp [undef]) rfl ?_
      refine op_skip rfl rfl (by simp [undef]) rfl ?_
      first
        | (refine op_want rfl rfl ?_
           refine op_v (v_pickf rfl rfl) rfl ?_)
        | (refine op_skip rfl rfl (by simp [undef]) rfl ?_)
      refine op_v (v_pickf rfl rfl) rfl ?_
      refine op_v (v_assign rfl) rfl ?_
      refine ops_nil ?_
      refine post_next ?_
      refine code_ret ?_
      refine post_ret (rs := [.tmp 4]) rfl (List.Perm.refl _) (.cons (.tmp rfl) .nil) (List.nil_sublist _) ?_
      exact ⟨by unfold eqL; simp_all [outV], rfl⟩
theorem RLSame_does {I : Imm} {va vb : Value} {x y : Li} (ha : RepL I va x) (hb : RepL I vb y) (h1 : x.l.size ≤ 1000000000) (h2 : x.r.size ≤ 1000000000) (h3 : y.l.size ≤ 1000000000) (h4 : y.r.size ≤ 1000000000) :
    Does Tryz.prog 128 [va, vb] I [] (fun v _ δ' => v = .bool (sameL x y) ∧ δ' = []) := by
  have ha0 := ha
  have hb0 := hb
  obtain ⟨la, lc, ra, rc, rfl, hl, hr⟩ := ha
  obtain ⟨ma, mc, na, nc, rfl, kl, kr⟩ := hb
  refine Does.intro Tryz.func128 rfl Tryz.ntmps128 rfl fun w0 => ?_
  refine code_seq ?_
  refine code_region ?_
  refine o_box rfl rfl rfl (fun b2 => ?_)
  refine o_box rfl rfl rfl (fun b3 => ?_)
  refine op_v (v_assign rfl) rfl ?_
  refine ops_nil ?_
  refine post_next ?_
  refine code_seq ?_
  refine code_region ?_
  refine op_v (v_fieldB 0 Tryz.underlying59 rfl rfl fz4 rfl) rfl ?_
  refine op_v (v_loadA ty4 rfl rfl) rfl ?_
  refine op_v (v_fieldB 0 Tryz.underlying59 rfl rfl fz4 rfl) rfl ?_
  refine op_v (v_loadA ty4 rfl rfl) rfl ?_
  refine op_v (v_eqb (z := (x.neg == y.neg)) Tryz.underlying4 rfl rfl rfl) rfl ?_
  by_cases e1 : (x.neg == y.neg) = true
  · rw [e1]
    refine op_v (v_move rfl) rfl ?_
    refine op_want rfl rfl ?_
    refine op_v (v_loadA ty59 rfl rfl) rfl ?_
    refine op_want rfl rfl ?_
    refine op_v (v_loadA ty59 rfl rfl) rfl ?_
    refine op_want rfl rfl ?_
    refine op_call pl157 rfl rfl ((sides_does (ha0.mono Imm.leA) (hb0.mono Imm.leA) h1 h2 h3 h4)) Parts.none ?_
    rintro _ I13 _ hI13 ⟨rfl, rfl⟩
    refine op_v (v_pickt rfl rfl) rfl ?_
    refine op_v (v_assign rfl) rfl ?_
    refine ops_nil ?_
    refine post_next ?_
    refine code_ret ?_
    refine post_ret (rs := [.tmp 4]) rfl (List.Perm.refl _) (.cons (.tmp rfl) .nil) (List.nil_sublist _) ?_
    exact ⟨by unfold sameL; rw [e1]; rfl, rfl⟩
  · have e1' : (x.neg == y.neg) = false := by simpa using e1
    rw [e1']
    refine op_v (v_move rfl) rfl ?_
    refine op_skip rfl rfl (by simp [undef]) rfl ?_
    refine op_skip rfl rfl (by simp [undef]) rfl ?_
    refine op_skip rfl rfl (by simp [undef]) rfl ?_
    refine op_v (v_pickf rfl rfl) rfl ?_
    refine op_v (v_assign rfl) rfl ?_
    refine ops_nil ?_
    refine post_next ?_
    refine code_ret ?_
    refine post_ret (rs := [.tmp 4]) rfl (List.Perm.refl _) (.cons (.tmp rfl) .nil) (List.nil_sublist _) ?_
    exact ⟨by unfold sameL; rw [e1']; rfl, rfl⟩
end Go.Proofs.YtdbadicpbmndbaaGreat
/- Walks: the document's answers on clauses and maximal literals. -/
set_option linter.unusedVariables false
set_option linter.unusedSimpArgs false
set_option linter.unnecessarySimpa false
/- short -/
namespace Go.Proofs.YtdbadicpbmndbaaGreat
open Go Lg

theorem RCheck10_does {I : Imm} {vg v : Value} {gs : List Sy} {c : List Li} (hg : RepG I vg gs) (hv : RepC I v c) (hs : SmC c) :
    Does Tryz.prog 27 [vg, v] I [] (fun v I' δ' => v = .int .i64 (chkC gs c) ∧ δ' = []) := by
  obtain ⟨ad, c0, xs, rfl, hc, hb, hcells, hrow⟩ := hv
  refine Does.intro Tryz.func27 rfl Tryz.ntmps27 rfl fun w0 => ?_
  refine code_seq ?_
  refine code_region ?_
  refine op_v (v_assign rfl) rfl ?_
  refine ops_nil ?_
  refine post_next ?_
  refine code_seq ?_
  refine code_seq ?_
  refine code_region ?_
  refine op_v (v_move rfl) rfl ?_
  refine op_call pl70 rfl rfl ((RightR_does hg)) Parts.none ?_
  rintro v8 I8 _ hI8 ⟨rfl, rfl⟩
  by_cases h9 : rightG gs = true
  · rw [h9]
    have hck0 : chkG gs = 0 := if_pos h9
    refine op_v (v_not rfl) rfl ?_
    refine ops_nil ?_
    refine post_next ?_
    refine code_cond_f rfl ?_
    refine code_skip ?_
    refine post_next ?_
    refine code_seq ?_
    refine code_seq ?_
    refine code_region ?_
    refine op_v (v_move rfl) rfl ?_
    refine op_v (v_len Tryz.underlying23 rfl) rfl ?_
    by_cases h12 : 32 < c.length
    · refine op_v (v_cmpt rfl rfl rfl (by omega)) rfl ?_
      refine ops_nil ?_
      refine post_next ?_
      refine code_cond_t rfl ?_
      refine code_seq ?_
      refine code_region ?_
      refine op_v (v_assign rfl) rfl ?_
      refine ops_nil ?_
      refine post_next ?_
      refine code_ret ?_
      refine post_ret_then ?_
      refine post_ret (rs := [.tmp 4]) rfl (List.Perm.refl _) (.cons (.tmp rfl) .nil) (List.nil_sublist _) ?_
      exact ⟨by unfold chkC; rw [if_neg (by rw [hck0]; simp), if_pos h12]; rfl, rfl⟩
    · have hck : chkC gs c = chkLs gs c := by unfold chkC; rw [if_neg (by rw [hck0]; simp), if_neg h12]
      refine op_v (v_cmpf rfl rfl rfl (by omega)) rfl ?_
      refine ops_nil ?_
      refine post_next ?_
      refine code_cond_f rfl ?_
      refine code_skip ?_
      refine post_next ?_
      refine code_seq ?_
      refine code_seq ?_
      refine code_region ?_
      refine op_v (v_assign rfl) rfl ?_
      refine ops_nil ?_
      refine post_next ?_
      refine code_block ?_
      refine code_loop (fun m σ' I' δ' => ∃ k : Nat, m = c.length - k ∧ k ≤ c.length ∧ σ' = [(0, vg), (1, .slice ad c.length c0), (5, .int .i64 k)] ∧ I.le I' ∧ δ' = [] ∧ chkLs gs c = chkLs gs (c.drop k)) c.length [(0, vg), (1, .slice ad c.length c0), (5, .int .i64 (0 : Nat))] ⟨0, rfl, Nat.zero_le _, rfl, Imm.leA, rfl, rfl⟩ ⟨rfl, rfl, rfl, trivial⟩ ?_
      rintro m _ I0 _ ⟨k, rfl, hk, rfl, hI0, rfl, hta⟩
      refine code_seq ?_
      refine code_seq ?_
      refine code_region ?_
      refine op_v (v_move rfl) rfl ?_
      refine op_v (v_move rfl) rfl ?_
      refine op_v (v_len Tryz.underlying23 rfl) rfl ?_
      refine op_v (v_cmp rfl rfl rfl) rfl ?_
      refine ops_nil ?_
      refine post_next ?_
      refine code_cond rfl (fun hc2 => ?_) (fun hc2 => ?_)
      · have hlt : k < c.length := by simpa using hc2
        obtain ⟨vs, ⟨la, lc, ra, rc, rfl, hl, hr⟩, hat⟩ := hrow.cellsAt hcells hlt
        have hs1 := hat.isSome
        have hsk := hs.at hlt
        rw [List.drop_eq_getElem_cons hlt] at hta
        refine code_skip ?_
        refine post_next ?_
        refine code_seq ?_
        refine code_block ?_
        refine code_seq ?_
        refine code_region ?_
        refine op_v (v_move rfl) rfl ?_
        refine op_v (v_move rfl) rfl ?_
        refine op_v (v_move rfl) rfl ?_
        refine op_v (v_indexA Tryz.underlying23 sz59 rfl rfl) rfl ?_
        refine op_v (v_loadI0 ty59 (hat.mono hI0) rfl rfl rfl) rfl ?_
        refine op_call pl71 rfl rfl ((RLCheck_does (x := c[k]) (hg.mono hI0) ⟨la, lc, ra, rc, rfl, hl.mono hI0, hr.mono hI0⟩ hsk.1 hsk.2)) Parts.none ?_
        rintro v24 I24 _ hI24 ⟨rfl, rfl⟩
        refine op_v (v_assign rfl) rfl ?_
        refine ops_nil ?_
        refine post_next ?_
        refine code_seq ?_
        refine code_region ?_
        refine op_v (v_move rfl) rfl ?_
        by_cases h26 : litG gs c[k] ≠ 0
        · refine op_v (v_cmptA rfl rfl rfl) rfl ?_
          refine ops_nil ?_
          refine post_next ?_
          refine code_cond_t rfl ?_
          refine code_seq ?_
          refine code_region ?_
          refine op_v (v_move rfl) rfl ?_
          refine op_v (v_assign rfl) rfl ?_
          refine ops_nil ?_
          refine post_next ?_
          refine code_ret ?_
          refine post_ret_block ?_
          refine post_ret_then ?_
          refine post_ret_then ?_
          refine post_ret_block ?_
          refine post_ret_then ?_
          refine post_ret (rs := [.tmp 4]) rfl (List.Perm.refl _) (.cons (.tmp rfl) .nil) (List.nil_sublist _) ?_
          exact ⟨by rw [hck, hta, chkLs, if_pos h26]; rfl, rfl⟩
        · refine op_v (v_cmpfA rfl rfl rfl) rfl ?_
          refine ops_nil ?_
          refine post_next ?_
          refine code_cond_f rfl ?_
          refine code_skip ?_
          refine post_out ?_
          refine post_next ?_
          refine code_region ?_
          refine op_v (v_move rfl) rfl ?_
          refine op_v (v_addb rfl rfl rfl (by omega)) rfl ?_
          refine op_v (v_assign rfl) rfl ?_
          refine ops_nil ?_
          refine post_again (c.length - (k + 1)) [(0, vg), (1, .slice ad c.length c0), (5, .int .i64 (k + 1 : Nat))] (by omega) ⟨k + 1, rfl, hlt, rfl, Imm.leA, rfl, by rw [hta, chkLs, if_neg h26]⟩ ⟨rfl, rfl, rfl, trivial⟩
      · have hge : k = c.length := by simp at hc2; omega
        subst hge
        rw [List.drop_length] at hta
        refine code_exit ?_
        refine post_exit_then ?_
        refine post_exit_then ?_
        refine post_exit ?_
        refine post_next ?_
        refine code_seq ?_
        refine code_region ?_
        refine op_v (v_assign rfl) rfl ?_
        refine ops_nil ?_
        refine post_next ?_
        refine code_ret ?_
        refine post_ret (rs := [.tmp 4]) rfl (List.Perm.refl _) (.cons (.tmp rfl) .nil) (List.nil_sublist _) ?_
        exact ⟨by rw [hck, hta]; rfl, rfl⟩
  · have h9' : rightG gs = false := by simpa using h9
    rw [h9']
    have hck1 : chkG gs = 1 := if_neg h9
    refine op_v (v_not rfl) rfl ?_
    refine ops_nil ?_
    refine post_next ?_
    refine code_cond_t rfl ?_
    refine code_seq ?_
    refine code_region ?_
    refine op_v (v_assign rfl) rfl ?_
    refine ops_nil ?_
    refine post_next ?_
    refine code_ret ?_
    refine post_ret_then ?_
    refine post_ret (rs := [.tmp 4]) rfl (List.Perm.refl _) (.cons (.tmp rfl) .nil) (List.nil_sublist _) ?_
    exact ⟨by unfold chkC; rw [hck1, if_pos (by decide)]; rfl, rfl⟩
end Go.Proofs.YtdbadicpbmndbaaGreat
/- Walks: the document's answers: variables as they come, terms put into a clause. -/
set_option linter.unusedVariables false
set_option linter.unusedSimpArgs false
set_option linter.unnecessarySimpa false
/- short -/
namespace Go.Proofs.YtdbadicpbmndbaaGreat
open Go Lg

theorem RAll1_does {I : Imm} {v : Value} {ts : List T} (hv : RepS I v ts) (hbig : ∀ t ∈ ts, t.size ≤ 1000000000) :
    Does Tryz.prog 55 [v] I [] (fun v I' δ' => v = .bool (!ts.any badT) ∧ δ' = []) := by
  obtain ⟨ad, c, ss, xs, rfl, hc, hr, hb, he⟩ := hv.row
  refine Does.intro Tryz.func55 rfl Tryz.ntmps55 rfl fun w0 => ?_
  refine code_seq ?_
  refine code_region ?_
  refine op_v (v_assign rfl) rfl ?_
  refine ops_nil ?_
  refine post_next ?_
  refine code_seq ?_
  refine code_seq ?_
  refine code_region ?_
  refine op_v (v_assign rfl) rfl ?_
  refine ops_nil ?_
  refine post_next ?_
  refine code_block ?_
  refine code_loop (fun m σ' I' δ' => ∃ k : Nat, m = ts.length - k ∧ k ≤ ts.length ∧ σ' = [(0, .slice ad ts.length c), (3, .int .i64 k)] ∧ I.le I' ∧ δ' = [] ∧ ∀ j (h : j < ts.length), j < k → badT ts[j] = false) ts.length [(0, .slice ad ts.length c), (3, .int .i64 (0 : Nat))] ⟨0, rfl, Nat.zero_le _, rfl, Imm.le_refl _, rfl, fun j _ h => by omega⟩ ⟨rfl, rfl, trivial⟩ ?_
  rintro m _ I0 _ ⟨k, rfl, hk, rfl, hI0, rfl, hp⟩
  refine code_seq ?_
  refine code_seq ?_
  refine code_region ?_
  refine op_v (v_move rfl) rfl ?_
  refine op_v (v_move rfl) rfl ?_
  refine op_v (v_len Tryz.underlying46 rfl) rfl ?_
  refine op_v (v_cmp rfl rfl rfl) rfl ?_
  refine ops_nil ?_
  refine post_next ?_
  refine code_cond rfl (fun hc0 => ?_) (fun hc0 => ?_)
  · have hlt : k < ts.length := by simpa using hc0
    obtain ⟨hat, hrt⟩ := he k hlt
    have hs1 := hat.isSome
    refine code_skip ?_
    refine post_next ?_
    refine code_seq ?_
    refine code_block ?_
    refine code_seq ?_
    refine code_region ?_
    refine op_v (v_move rfl) rfl ?_
    refine op_v (v_move rfl) rfl ?_
    refine op_v (v_indexA Tryz.underlying46 sz48 rfl rfl) rfl ?_
    refine op_v (v_loadI0 ty48 (hat.mono hI0) rfl rfl rfl) rfl ?_
    refine op_call pl100 rfl rfl ((RRight1_does (hrt.mono hI0) (hbig _ (List.getElem_mem _)))) Parts.none ?_
    rintro v14 I14 _ hI14 ⟨rfl, rfl⟩
    by_cases h15 : chkT ts[k] = 0
    · rw [show decide (chkT ts[k] = 0) = true by simpa using h15]
      have hbk : badT ts[k] = false := by unfold badT; simp [h15]
      refine op_v (v_not rfl) rfl ?_
      refine ops_nil ?_
      refine post_next ?_
      refine code_cond_f rfl ?_
      refine code_skip ?_
      refine post_out ?_
      refine post_next ?_
      refine code_region ?_
      refine op_v (v_move rfl) rfl ?_
      refine op_v (v_addb rfl rfl rfl (by omega)) rfl ?_
      refine op_v (v_assign rfl) rfl ?_
      refine ops_nil ?_
      refine post_again (ts.length - (k + 1)) [(0, .slice ad ts.length c), (3, .int .i64 (k + 1 : Nat))] (by omega) ⟨k + 1, rfl, hlt, rfl, Imm.leA, rfl, fun j h hj => ?_⟩ ⟨rfl, rfl, trivial⟩
      rcases Nat.lt_or_ge j k with q | q
      · exact hp j h q
      · have e : j = k := by omega
        subst e; exact hbk
    · rw [show decide (chkT ts[k] = 0) = false by simpa using h15]
      have hbk : badT ts[k] = true := by unfold badT; simp [h15]
      refine op_v (v_not rfl) rfl ?_
      refine ops_nil ?_
      refine post_next ?_
      refine code_cond_t rfl ?_
      refine code_seq ?_
      refine code_region ?_
      refine op_v (v_assign rfl) rfl ?_
      refine ops_nil ?_
      refine post_next ?_
      refine code_ret ?_
      refine post_ret_block ?_
      refine post_ret_then ?_
      refine post_ret_then ?_
      refine post_ret_block ?_
      refine post_ret_then ?_
      refine post_ret (rs := [.tmp 2]) rfl (List.Perm.refl _) (.cons (.tmp rfl) .nil) (List.nil_sublist _) ?_
      exact ⟨by rw [show ts.any badT = true from List.any_eq_true.2 ⟨_, List.getElem_mem hlt, hbk⟩]; rfl, rfl⟩
  · have hge : k = ts.length := by simp at hc0; omega
    refine code_exit ?_
    refine post_exit_then ?_
    refine post_exit_then ?_
    refine post_exit ?_
    refine post_next ?_
    refine code_seq ?_
    refine code_region ?_
    refine op_v (v_assign rfl) rfl ?_
    refine ops_nil ?_
    refine post_next ?_
    refine code_ret ?_
    refine post_ret (rs := [.tmp 2]) rfl (List.Perm.refl _) (.cons (.tmp rfl) .nil) (List.nil_sublist _) ?_
    exact ⟨by rw [show ts.any badT = false from List.any_eq_false.2 fun t ht => by obtain ⟨j, hj, rfl⟩ := List.getElem_of_mem ht; rw [hp j hj (by omega)]; simp]; rfl, rfl⟩
theorem RNumber_does {I : Imm} {v : Value} {vs : List Int} (hv : RInts I v vs) (hl : vs.length ≤ 1000000) :
    Does Tryz.prog 99 [v] I [] (fun v I' δ' => RepB I' v (numB vs) ∧ δ' = []) := by
  have hlen := hv.len
  obtain ⟨va, vc, rfl⟩ := hv.shape
  refine Does.intro Tryz.func99 rfl Tryz.ntmps99 rfl fun w0 => ?_
  refine code_seq ?_
  refine code_region ?_
  refine op_v (v_assign rfl) rfl ?_
  refine ops_nil ?_
  refine post_next ?_
  refine code_seq ?_
  refine code_region ?_
  refine op_v (v_assign rfl) rfl ?_
  refine ops_nil ?_
  refine post_next ?_
  refine code_seq ?_
  refine code_seq ?_
  refine code_region ?_
  refine op_v (v_assign rfl) rfl ?_
  refine ops_nil ?_
  refine post_next ?_
  refine code_block ?_
  refine CodeJ.view (View.nilRow 50 3) ?_
  refine code_loop (fun m σ' I' δ' => ∃ (k : Nat) (A : Option Addr) (c' : Nat) (xs : List Value), m = vs.length - k ∧ k ≤ vs.length ∧ σ' = [(0, .slice va vs.length vc), (3, .slice A k c'), (4, .int .i64 k)] ∧ I.le I' ∧ δ' = [bdRow A c' k xs] ∧ RowE BindE I' xs (numB (vs.take k))) vs.length [(0, .slice va vs.length vc), (3, .slice none 0 0), (4, .int .i64 (0 : Nat))] ⟨0, none, 0, [], rfl, Nat.zero_le _, rfl, Imm.le_refl _, rfl, rfl⟩ ⟨rfl, rfl, rfl, trivial⟩ ?_
  rintro m _ I0 _ ⟨k, A, c', xs, rfl, hk, rfl, hI0, rfl, hx⟩
  refine code_seq ?_
  refine code_seq ?_
  refine code_region ?_
  refine op_v (v_move rfl) rfl ?_
  refine op_v (v_move rfl) rfl ?_
  refine op_v (v_len Tryz.underlying30 rfl) rfl ?_
  refine op_v (v_cmp rfl rfl rfl) rfl ?_
  refine ops_nil ?_
  refine post_next ?_
  refine code_cond rfl (fun hc0 => ?_) (fun hc0 => ?_)
  · have hlt : k < vs.length := by simpa using hc0
    have hatk := hv.atI k hlt
    have hs1 := hatk.isSome
    have hin := hlen.2 _ (List.getElem_mem hlt)
    refine code_skip ?_
    refine post_next ?_
    refine code_seq ?_
    refine code_block ?_
    refine code_draw (.fl 0 (.fl 1 (.fl 2 (.fl 3 (.fl 4 (.fl 5 (.ef 6 (.fl 7 (.ef 8 (.ef 9 (.ef 10 .done))))))))))) (fun _ => []) mixed (by kernel_rfl) (by kernel_rfl) (fun _ => (List.nil_sublist _)) ?_
    refine e_fl rfl rfl (fun hs_ => PF.mk rfl (v_move rfl) hs_) ?_
    refine e_fl rfl rfl (fun hs_ => PF.mk rfl (v_move rfl) hs_) ?_
    refine e_fl rfl rfl (fun hs_ => PF.mk rfl (v_move rfl) hs_) ?_
    refine e_fl rfl rfl (fun hs_ => PF.mk rfl (v_indexA Tryz.underlying30 sz3 rfl rfl) hs_) ?_
    refine e_fl rfl rfl (fun hs_ => PF.mk rfl (v_loadI0 ty3 (hatk.mono hI0) rfl rfl rfl) hs_) ?_
    refine e_fl rfl rfl (fun hs_ => PF.mk rfl (v_move rfl) hs_) ?_
    refine e_eff rfl (by intro cs b hc; cases hc) (by intro c hc; cases hc) ?_
    refine op_call pl59 rfl rfl ((Var_does (n := (k : Int)) (by omega) (by omega))) Parts.none ?_
    rintro v17 I17 _ hI17 ⟨hv17, rfl⟩
    obtain ⟨a17, c17, rfl, _⟩ := hv17.shape
    refine ops_nil ?_
    refine e_next rfl side_allA ?_
    refine e_fl rfl rfl (fun hs_ => PF.mk rfl (v_build bl50 rfl rfl) hs_) ?_
    refine e_eff rfl (by intro cs b hc; cases hc) (by intro c hc; cases hc) ?_
    refine o_buildSlice (xs := [(Go.Operand.tmp 18)]) Tryz.underlying24 bs50 rfl rfl rfl rfl rfl (fun b19 => ?_)
    refine ops_nil ?_
    refine e_next rfl side_allA ?_
    refine e_eff rfl (by intro cs b hc; cases hc) (by intro c hc; cases hc) ?_
    refine o_append Tryz.underlying24 bs50 rfl rfl rfl (fun v' => by repeat (first | exact Swap.here | apply Swap.there)) (Src.ofRow (by repeat (first | exact Has.here | apply Has.there)) rfl) (by first | rfl | omega | simp) (by simp [cat, cellsL, Value.oneCell']) (by omega) (by omega) (fun a20 c20 => ?_)
    refine ops_nil ?_
    refine e_next rfl side_allA ?_
    refine e_eff rfl (by intro cs b hc; cases hc) (by intro c hc; cases hc) ?_
    refine op_v (v_assign rfl) rfl ?_
    refine ops_nil ?_
    refine e_next rfl (side_nil (by kernel_rfl)) ?_
    refine e_done ?_
    refine post_out ?_
    refine post_next ?_
    refine code_region ?_
    refine op_v (v_move rfl) rfl ?_
    refine op_v (v_addb rfl rfl rfl (by omega)) rfl ?_
    refine op_v (v_assign rfl) rfl ?_
    refine ops_nil ?_
    refine PostJ.view (View.drop Del.here) ?_
    refine post_again (vs.length - (k + 1)) [(0, .slice va vs.length vc), (3, .slice a20 (k + 1) c20), (4, .int .i64 (k + 1 : Nat))] (by omega) ⟨k + 1, a20, c20, xs ++ biC (vs[k], .mk (-1 - (k : Int)) []) a17 c17, rfl, hlt, rfl, Imm.leA, rfl, by rw [numB_take vs k hlt]; exact (hx.mono Imm.leA).app (RowE.single ⟨hin, a17, c17, rfl, hv17.mono Imm.leA⟩)⟩ ⟨rfl, rfl, rfl, trivial⟩
  · have hge : k = vs.length := by simp at hc0; omega
    refine code_exit ?_
    refine post_exit_then ?_
    refine post_exit_then ?_
    refine post_exit ?_
    refine post_next ?_
    refine code_seq ?_
    refine code_region ?_
    refine OpsJ.freezeRow Del.here ?_
    rintro I21 a21 c21 hI21 hq hc21 hl21 hcells21
    cases hq
    rw [hge, List.take_length] at hx
    have hnl := numB_len vs
    have hrb := (hx.mono hI21).repB (c := c') hcells21 (by omega) (by omega)
    rw [hnl, ← hge] at hrb
    refine op_v (v_move rfl) rfl ?_
    refine op_v (v_assign rfl) rfl ?_
    refine ops_nil ?_
    refine post_next ?_
    refine code_ret ?_
    refine post_ret (rs := [.tmp 2]) rfl (List.Perm.refl _) (.cons (.tmp rfl) .nil) (List.nil_sublist _) ?_
    exact ⟨hrb, rfl⟩
theorem RPut10_does {I : Imm} {vs v : Value} {bs : List Bi} {c : List Li} (hs : RepB I vs bs) (hv : RepC I v c) (hck : (sidesL c).any badT = false) :
    Does Tryz.prog 98 [vs, v] I [] (fun v I' δ' => RepC I' v (putC bs c) ∧ δ' = []) := by
  obtain ⟨sa, sc, rfl⟩ := hs.shape
  obtain ⟨ad, c0, xs, rfl, hc, hb, hcells, hrow⟩ := hv
  have hchk : ∀ x ∈ c, chkT x.l = 0 ∧ chkT x.r = 0 := fun x hx => ⟨any_bad hck _ (List.mem_flatMap.2 ⟨x, hx, by simp⟩), any_bad hck _ (List.mem_flatMap.2 ⟨x, hx, by simp⟩)⟩
  have hpl : (putC bs c).length = c.length := by simp [putC]
  refine Does.intro Tryz.func98 rfl Tryz.ntmps98 rfl fun w0 => ?_
  refine code_seq ?_
  refine code_region ?_
  refine op_v (v_assign rfl) rfl ?_
  refine ops_nil ?_
  refine post_next ?_
  refine code_seq ?_
  refine code_region ?_
  refine op_v (v_assign rfl) rfl ?_
  refine ops_nil ?_
  refine post_next ?_
  refine code_seq ?_
  refine code_seq ?_
  refine code_region ?_
  refine op_v (v_assign rfl) rfl ?_
  refine ops_nil ?_
  refine post_next ?_
  refine code_block ?_
  refine CodeJ.view (View.nilRow 59 5) ?_
  refine code_loop (fun m σ' I' δ' => ∃ (k : Nat) (A : Option Addr) (c' : Nat) (zs : List Value), m = c.length - k ∧ k ≤ c.length ∧ σ' = [(0, .slice sa bs.length sc), (1, .slice ad c.length c0), (5, .slice A k c'), (6, .int .i64 k)] ∧ I.le I' ∧ δ' = [cRow A c' k zs] ∧ RowE LitE I' zs ((putC bs c).take k)) c.length [(0, .slice sa bs.length sc), (1, .slice ad c.length c0), (5, .slice none 0 0), (6, .int .i64 (0 : Nat))] ⟨0, none, 0, [], rfl, Nat.zero_le _, rfl, Imm.le_refl _, rfl, rfl⟩ ⟨rfl, rfl, rfl, rfl, trivial⟩ ?_
  rintro m _ I0 _ ⟨k, A, c', zs, rfl, hk, rfl, hI0, rfl, hzs⟩
  refine code_seq ?_
  refine code_seq ?_
  refine code_region ?_
  refine op_v (v_move rfl) rfl ?_
  refine op_v (v_move rfl) rfl ?_
  refine op_v (v_len Tryz.underlying23 rfl) rfl ?_
  refine op_v (v_cmp rfl rfl rfl) rfl ?_
  refine ops_nil ?_
  refine post_next ?_
  refine code_cond rfl (fun hc0 => ?_) (fun hc0 => ?_)
  · have hlt : k < c.length := by simpa using hc0
    obtain ⟨vs, ⟨la, lc, ra, rc, rfl, hl, hr⟩, hat⟩ := hrow.cellsAt hcells hlt
    have hs1 := hat.isSome
    have hck2 := hchk _ (List.getElem_mem hlt)
    have htk : (putC bs c).take (k + 1) = (putC bs c).take k ++ [⟨c[k].neg, sbT bs c[k].l, sbT bs c[k].r⟩] := by rw [List.take_succ_eq_append_getElem (by omega)]; simp [putC]
    refine code_skip ?_
    refine post_next ?_
    refine code_seq ?_
    refine code_block ?_
    refine code_draw (.fl 0 (.fl 1 (.fl 2 (.fl 3 (.fl 4 (.fl 5 (.fl 6 (.fl 7 (.fl 8 (.fl 9 (.fl 10 (.fl 11 (.fl 13 (.fl 14 (.fl 15 (.fl 16 (.fl 17 (.fl 18 (.ef 12 (.ef 19 (.fl 20 (.ef 21 (.ef 22 (.ef 23 .done)))))))))))))))))))))))) (fun _ => []) mixed (by kernel_rfl) (by kernel_rfl) (fun _ => (List.nil_sublist _)) ?_
    refine e_fl rfl rfl (fun hs_ => PF.mk rfl (v_move rfl) hs_) ?_
    refine e_fl rfl rfl (fun hs_ => PF.mk rfl (v_move rfl) hs_) ?_
    refine e_fl rfl rfl (fun hs_ => PF.mk rfl (v_move rfl) hs_) ?_
    refine e_fl rfl rfl (fun hs_ => PF.mk rfl (v_indexA Tryz.underlying23 sz59 rfl rfl) hs_) ?_
    refine e_fl rfl rfl (fun hs_ => PF.mk rfl (v_fieldI 0 Tryz.underlying59 rfl rfl fz4 rfl (by assumption)) hs_) ?_
    refine e_fl rfl rfl (fun hs_ => PF.mk rfl (v_loadI0 ty4 (hat.mono hI0) rfl rfl rfl) hs_) ?_
    refine e_fl rfl rfl (fun hs_ => PF.mk rfl (v_move rfl) hs_) ?_
    refine e_fl rfl rfl (fun hs_ => PF.mk rfl (v_move rfl) hs_) ?_
    refine e_fl rfl rfl (fun hs_ => PF.mk rfl (v_move rfl) hs_) ?_
    refine e_fl rfl rfl (fun hs_ => PF.mk rfl (v_indexA Tryz.underlying23 sz59 rfl rfl) hs_) ?_
    refine e_fl rfl rfl (fun hs_ => PF.mk rfl (v_fieldI 1 Tryz.underlying59 rfl rfl fz48 rfl (by assumption)) hs_) ?_
    refine e_fl rfl rfl (fun hs_ => PF.mk rfl (v_loadI ty48 (hat.mono hI0) rfl rfl rfl) hs_) ?_
    refine e_fl rfl rfl (fun hs_ => PF.mk rfl (v_move rfl) hs_) ?_
    refine e_fl rfl rfl (fun hs_ => PF.mk rfl (v_move rfl) hs_) ?_
    refine e_fl rfl rfl (fun hs_ => PF.mk rfl (v_move rfl) hs_) ?_
    refine e_fl rfl rfl (fun hs_ => PF.mk rfl (v_indexA Tryz.underlying23 sz59 rfl rfl) hs_) ?_
    refine e_fl rfl rfl (fun hs_ => PF.mk rfl (v_fieldI 3 Tryz.underlying59 rfl rfl fz48 rfl (by assumption)) hs_) ?_
    refine e_fl rfl rfl (fun hs_ => PF.mk rfl (v_loadI ty48 (hat.mono Imm.leA) rfl rfl rfl) hs_) ?_
    refine e_eff rfl (by intro cs b hc; cases hc) (by intro c hc; cases hc) ?_
    refine op_call pl132 rfl rfl ((RPut_does _ _ (Nat.le_refl _) hck2.1 _ _ _ (hs.mono Imm.leA) (hl.mono Imm.leA))) Parts.none ?_
    rintro v25 I25 _ hI25 ⟨hv25, rfl⟩
    obtain ⟨a25, c25, rfl, _⟩ := hv25.shape
    refine ops_nil ?_
    refine e_next rfl side_allA ?_
    refine e_eff rfl (by intro cs b hc; cases hc) (by intro c hc; cases hc) ?_
    refine op_call pl132 rfl rfl ((RPut_does _ _ (Nat.le_refl _) hck2.2 _ _ _ (hs.mono Imm.leA) (hr.mono Imm.leA))) Parts.none ?_
    rintro v32 I32 _ hI32 ⟨hv32, rfl⟩
    obtain ⟨a32, c32, rfl, _⟩ := hv32.shape
    refine ops_nil ?_
    refine e_next rfl side_allA ?_
    refine e_fl rfl rfl (fun hs_ => PF.mk rfl (v_build bl59 rfl rfl) hs_) ?_
    refine e_eff rfl (by intro cs b hc; cases hc) (by intro c hc; cases hc) ?_
    refine o_buildSlice (xs := [(Go.Operand.tmp 33)]) Tryz.underlying23 bs59 rfl rfl rfl rfl rfl (fun b34 => ?_)
    refine ops_nil ?_
    refine e_next rfl side_allA ?_
    refine e_eff rfl (by intro cs b hc; cases hc) (by intro c hc; cases hc) ?_
    refine o_append Tryz.underlying23 bs59 rfl rfl rfl (fun v' => by repeat (first | exact Swap.here | apply Swap.there)) (Src.ofRow (by repeat (first | exact Has.here | apply Has.there)) rfl) (by first | rfl | omega | simp) (by simp [cat, cellsL, Value.oneCell']) (by omega) (by omega) (fun a35 c35 => ?_)
    refine ops_nil ?_
    refine e_next rfl side_allA ?_
    refine e_eff rfl (by intro cs b hc; cases hc) (by intro c hc; cases hc) ?_
    refine op_v (v_assign rfl) rfl ?_
    refine ops_nil ?_
    refine e_next rfl (side_nil (by kernel_rfl)) ?_
    refine e_done ?_
    refine post_out ?_
    refine post_next ?_
    refine code_region ?_
    refine op_v (v_move rfl) rfl ?_
    refine op_v (v_addb rfl rfl rfl (by omega)) rfl ?_
    refine op_v (v_assign rfl) rfl ?_
    refine ops_nil ?_
    refine PostJ.view (View.drop Del.here) ?_
    refine post_again (c.length - (k + 1)) [(0, .slice sa bs.length sc), (1, .slice ad c.length c0), (5, .slice a35 (k + 1) c35), (6, .int .i64 (k + 1 : Nat))] (by omega) ⟨k + 1, a35, c35, zs ++ liC ⟨c[k].neg, sbT bs c[k].l, sbT bs c[k].r⟩ a25 c25 a32 c32, rfl, hlt, rfl, Imm.leA, rfl, by rw [htk]; exact (hzs.mono Imm.leA).app (RowE.single ⟨a25, c25, a32, c32, rfl, hv25.mono Imm.leA, hv32.mono Imm.leA⟩)⟩ ⟨rfl, rfl, rfl, rfl, trivial⟩
  · have hge : k = c.length := by simp at hc0; omega
    refine code_exit ?_
    refine post_exit_then ?_
    refine post_exit_then ?_
    refine post_exit ?_
    refine post_next ?_
    refine code_seq ?_
    refine code_region ?_
    refine OpsJ.freezeRow Del.here ?_
    rintro I36 a36 c36 hI36 hq hc36 hl36 hcells36
    cases hq
    rw [hge, ← hpl, List.take_length] at hzs
    refine op_v (v_move rfl) rfl ?_
    refine op_v (v_assign rfl) rfl ?_
    refine ops_nil ?_
    refine post_next ?_
    refine code_ret ?_
    refine post_ret (rs := [.tmp 4]) rfl (List.Perm.refl _) (.cons (.tmp rfl) .nil) (List.nil_sublist _) ?_
    exact ⟨⟨A, c', zs, by rw [hpl, ← hge]; rfl, by omega, by omega, hcells36, hzs.mono hI36⟩, rfl⟩
theorem RNorm10_does {I : Imm} {v : Value} {c : List Li} (hv : RepC I v c) (hbig : sizeL (sidesL c) ≤ 10000) :
    Does Tryz.prog 54 [v] I [] (fun v I' δ' => (((sidesL c).any badT = true ∧ v = .tuple #[.slice none 0 0, .int .i64 1]) ∨ ((sidesL c).any badT = false ∧ ∃ a k, v = .tuple #[.slice a c.length k, .int .i64 0] ∧ RepC I' (.slice a c.length k) (normC c))) ∧ δ' = []) := by
  have hsz := sizeL_getL hbig
  have hul := uvL_len (sidesL c) []
  rw [List.length_nil, Nat.zero_add] at hul
  refine Does.intro Tryz.func54 rfl Tryz.ntmps54 rfl fun w0 => ?_
  refine code_seq ?_
  refine code_region ?_
  refine op_v (v_assign rfl) rfl ?_
  refine op_v (v_assign rfl) rfl ?_
  refine ops_nil ?_
  refine post_next ?_
  refine code_seq ?_
  refine code_seq ?_
  refine code_region ?_
  refine op_v (v_move rfl) rfl ?_
  refine op_call pl56 rfl rfl ((Terms_does hv)) Parts.none ?_
  rintro v5 I5 _ hI5 ⟨hs5, rfl⟩
  refine op_call pl55 rfl rfl ((RAll1_does hs5 (fun t ht => by have := hsz t ht; omega))) Parts.none ?_
  rintro v6 I6 _ hI6 ⟨rfl, rfl⟩
  by_cases h7 : (sidesL c).any badT = true
  · rw [h7]
    refine op_v (v_not rfl) rfl ?_
    refine ops_nil ?_
    refine post_next ?_
    refine code_cond_t rfl ?_
    refine code_seq ?_
    refine code_region ?_
    refine op_v (v_assign rfl) rfl ?_
    refine op_v (v_assign rfl) rfl ?_
    refine ops_nil ?_
    refine post_next ?_
    refine code_ret ?_
    refine post_ret_then ?_
    refine post_ret (rs := [.tmp 2, .tmp 3]) rfl (List.Perm.refl _) (.cons (.tmp rfl) (.cons (.tmp rfl) .nil)) (List.nil_sublist _) ?_
    exact ⟨.inl ⟨rfl, rfl⟩, rfl⟩
  · have h7' : (sidesL c).any badT = false := by simpa using h7
    rw [h7']
    refine op_v (v_not rfl) rfl ?_
    refine ops_nil ?_
    refine post_next ?_
    refine code_cond_f rfl ?_
    refine code_skip ?_
    refine post_next ?_
    refine code_seq ?_
    refine code_region ?_
    refine op_v (v_move rfl) rfl ?_
    refine op_call pl57 rfl rfl ((RVars10_does (hv.mono Imm.leA) hbig)) Parts.none ?_
    rintro v9 I9 _ hI9 ⟨hv9, rfl⟩
    refine op_call pl99 rfl rfl ((RNumber_does hv9 (by omega))) Parts.none ?_
    rintro v10 I10 _ hI10 ⟨hv10, rfl⟩
    refine op_v (v_move rfl) rfl ?_
    refine op_call pl98 rfl rfl ((RPut10_does hv10 (hv.mono Imm.leA) h7')) Parts.none ?_
    rintro v12 I12 _ hI12 ⟨hv12, rfl⟩
    rw [norm_putC h7'] at hv12
    have hl12 : (normC c).length = c.length := ofL_len c _ (by rw [renL_len]; exact sidesL_len c)
    obtain ⟨a12, c12, hsh⟩ := RepE.shape hv12
    rw [hl12] at hsh
    subst hsh
    refine op_v (v_assign rfl) rfl ?_
    refine op_v (v_assign rfl) rfl ?_
    refine ops_nil ?_
    refine post_next ?_
    refine code_ret ?_
    refine post_ret (rs := [.tmp 2, .tmp 3]) rfl (List.Perm.refl _) (.cons (.tmp rfl) (.cons (.tmp rfl) .nil)) (List.nil_sublist _) ?_
    exact ⟨.inr ⟨rfl, a12, c12, rfl, hv12⟩, rfl⟩
end Go.Proofs.YtdbadicpbmndbaaGreat
/- Walks: the document's answers: what stands apart. -/
set_option linter.unusedVariables false
set_option linter.unusedSimpArgs false
set_option linter.unnecessarySimpa false
/- short -/
namespace Go.Proofs.YtdbadicpbmndbaaGreat
open Go Lg

theorem Rshift_does {n : Int} (h0 : 0 ≤ n) (h1 : n ≤ 255) : ∀ (s : Nat) (t : T), t.size ≤ s → chkT t = 0 → ∀ (I : Imm) (v : Value), RepT I v t →
    Does Tryz.prog 103 [v, .int .i64 n] I [] (fun v I' δ' => RepT I' v (shT n t) ∧ δ' = []) := by
  intro s
  induction s with
  | zero => intro t ht; have := t.size_pos; omega
  | succ s ih =>
    intro t ht hck I v hv
    obtain ⟨h, ts⟩ := t
    obtain ⟨ad, c, ss, rfl, hr, hc, hb, hat, hsub⟩ := hv.elim
    have hsz : (T.mk h ts).size = 1 + sizeL ts := by simp [T.size]
    obtain ⟨hlf, hch⟩ := chkT_args hck
    have hh := chk_head9 hck
    have hr0 := hr
    unfold InR at hr0
    refine Does.intro Tryz.func103 rfl Tryz.ntmps103 rfl fun w0 => ?_
    refine code_seq ?_
    refine code_region ?_
    refine o_box rfl rfl rfl (fun b2 => ?_)
    refine o_alloc z48 rfl rfl (fun b4 => ?_)
    refine ops_nil ?_
    refine post_next ?_
    refine code_seq ?_
    refine code_seq ?_
    refine code_region ?_
    refine op_v (v_fieldB 0 Tryz.underlying48 rfl rfl fz3 rfl) rfl ?_
    refine op_v (v_loadA ty3 rfl rfl) rfl ?_
    by_cases hneg : h < 0
    · refine op_v (v_cmptA rfl rfl rfl) rfl ?_
      refine ops_nil ?_
      refine post_next ?_
      refine code_cond_t rfl ?_
      refine code_seq ?_
      refine code_region ?_
      refine op_v (v_fieldB 0 Tryz.underlying48 rfl rfl fz3 rfl) rfl ?_
      refine op_v (v_loadA ty3 rfl rfl) rfl ?_
      refine op_v (v_move rfl) rfl ?_
      refine op_v (v_subb (c := h - n) rfl rfl rfl (by omega)) rfl ?_
      refine op_v (v_build bl48 rfl rfl) rfl ?_
      refine o_store ty48 rfl rfl rfl rfl rfl (by repeat (first | exact Swap.here | apply Swap.there)) rfl ?_
      refine ops_nil ?_
      refine post_next ?_
      refine code_ret ?_
      refine post_ret_then ?_
      refine post_ret (rs := [.cell 4 48]) rfl (List.Perm.refl _) (.cons (.cell rfl ty48 (by repeat (first | exact Has.here | apply Has.there)) rfl) .nil) (List.nil_sublist _) ?_
      exact ⟨by show RepT _ _ (shT n (.mk h ts)); unfold shT; simp only [rbT]; rw [if_pos hneg]; exact RepT.mk _ (.mk (h - n) []) (by unfold InR; simp only [T.head]; omega) (RepS.nil _), rfl⟩
    · refine op_v (v_cmpfA rfl rfl rfl) rfl ?_
      refine ops_nil ?_
      refine post_next ?_
      refine code_cond_f rfl ?_
      refine code_skip ?_
      refine post_next ?_
      refine code_seq ?_
      refine code_region ?_
      refine op_v (v_fieldB 0 Tryz.underlying48 rfl rfl fz3 rfl) rfl ?_
      refine op_v (v_loadA ty3 rfl rfl) rfl ?_
      refine op_v (v_build bl48 rfl rfl) rfl ?_
      refine o_alloc z48 rfl rfl (fun b5 => ?_)
      refine o_store ty48 rfl rfl rfl rfl rfl (by repeat (first | exact Swap.here | apply Swap.there)) rfl ?_
      refine ops_nil ?_
      refine post_next ?_
      refine code_seq ?_
      refine code_seq ?_
      refine code_region ?_
      refine op_v (v_assign rfl) rfl ?_
      refine ops_nil ?_
      refine post_next ?_
      refine code_block ?_
      refine CodeJ.view (View.nilRow 48 2) ?_
      refine code_loop (fun m σ' I' δ' => ∃ (k : Nat) (ar : Option Addr) (cr : Nat) (xs : List Value), m = ts.length - k ∧ k ≤ ts.length ∧ σ' = [(1, .int .i64 n), (2, .pointer (some ⟨b2, 0, none⟩)), (4, .pointer (some ⟨b4, 0, none⟩)), (5, .pointer (some ⟨b5, 0, none⟩)), (6, .int .i64 k)] ∧ I.le I' ∧ δ' = [.row (.slice ar k cr) 48 2 k xs, .box b5 48 [.int .i64 h, .slice ar k cr], .box b4 48 [.int .i64 0, .slice none 0 0], .box b2 48 [.int .i64 h, .slice ad ts.length c]] ∧ RowT I' xs (rbL (shF n) (ts.take k))) ts.length [(1, .int .i64 n), (2, .pointer (some ⟨b2, 0, none⟩)), (4, .pointer (some ⟨b4, 0, none⟩)), (5, .pointer (some ⟨b5, 0, none⟩)), (6, .int .i64 (0 : Nat))] ⟨0, none, 0, [], rfl, Nat.zero_le _, rfl, Imm.le_refl _, rfl, RowT.nil _⟩ ⟨rfl, rfl, rfl, rfl, rfl, trivial⟩ ?_
      rintro m _ I0 _ ⟨k, ar, cr, xs, rfl, hk, rfl, hI0, rfl, hp⟩
      refine code_seq ?_
      refine code_seq ?_
      refine code_region ?_
      refine op_v (v_move rfl) rfl ?_
      refine op_v (v_fieldB 1 Tryz.underlying48 rfl rfl fz46 rfl) rfl ?_
      refine op_v (v_loadA ty46 rfl rfl) rfl ?_
      refine op_v (v_len Tryz.underlying46 rfl) rfl ?_
      refine op_v (v_cmp rfl rfl rfl) rfl ?_
      refine ops_nil ?_
      refine post_next ?_
      refine code_cond rfl (fun hc1 => ?_) (fun hc1 => ?_)
      · have hlt : k < ts.length := by simpa using hc1
        have hs1 := (hat k hlt).isSome
        have hm := sizeL_mem ts k hlt
        refine code_skip ?_
        refine post_next ?_
        refine code_seq ?_
        refine code_block ?_
        refine code_draw (.fl 0 (.fl 1 (.fl 2 (.fl 3 (.fl 4 (.fl 5 (.fl 6 (.fl 7 (.ef 8 (.ef 9 (.ef 10 (.fl 11 (.ef 12 .done))))))))))))) (fun _ => [.box b5 48 [.int .i64 h, .slice ar k cr], .box b4 48 [.int .i64 0, .slice none 0 0], .box b2 48 [.int .i64 h, .slice ad ts.length c]]) mixed (by kernel_rfl) (by kernel_rfl) (fun _ => (List.Sublist.cons _ (List.Sublist.refl _))) ?_
        refine e_fl rfl rfl (fun hs_ => PF.mk rfl (v_fieldB 1 Tryz.underlying48 rfl rfl fz46 rfl) hs_) ?_
        refine e_fl rfl rfl (fun hs_ => PF.mk rfl (v_loadA ty46 rfl rfl) hs_) ?_
        refine e_fl rfl rfl (fun hs_ => PF.mk rfl (v_fieldB 1 Tryz.underlying48 rfl rfl fz46 rfl) hs_) ?_
        refine e_fl rfl rfl (fun hs_ => PF.mk rfl (v_loadA ty46 rfl rfl) hs_) ?_
        refine e_fl rfl rfl (fun hs_ => PF.mk rfl (v_move rfl) hs_) ?_
        refine e_fl rfl rfl (fun hs_ => PF.mk rfl (v_indexA Tryz.underlying46 sz48 rfl rfl) hs_) ?_
        refine e_fl rfl rfl (fun hs_ => PF.mk rfl (v_loadI0 ty48 ((hat k hlt).mono hI0) rfl rfl rfl) hs_) ?_
        refine e_fl rfl rfl (fun hs_ => PF.mk rfl (v_move rfl) hs_) ?_
        refine e_eff rfl (by intro cs b hc; cases hc) (by intro c hc; cases hc) ?_
        refine op_call pl103 rfl rfl ((ih ts[k] (by omega) (hch k hlt) _ _ ((hsub k hlt).mono hI0))) Parts.none ?_
        rintro v33 I33 _ hI33 ⟨hv33, rfl⟩
        obtain ⟨p33, q33, rfl, _⟩ := hv33.shape
        refine ops_nil ?_
        refine e_next rfl side_allA ?_
        refine e_eff rfl (by intro cs b hc; cases hc) (by intro c hc; cases hc) ?_
        refine o_buildSlice (xs := [(Go.Operand.tmp 33)]) Tryz.underlying46 bs48 rfl rfl rfl rfl rfl (fun b34 => ?_)
        refine ops_nil ?_
        refine e_next rfl side_allA ?_
        refine e_eff rfl (by intro cs b hc; cases hc) (by intro c hc; cases hc) ?_
        refine o_append Tryz.underlying46 bs48 rfl rfl rfl (fun v' => by repeat (first | exact Swap.here | apply Swap.there)) (Src.ofRow (by repeat (first | exact Has.here | apply Has.there)) rfl) (by first | rfl | omega | simp) (by simp [cat, cellsL, Value.oneCell']) (by omega) (by omega) (fun a35 c35 => ?_)
        refine ops_nil ?_
        refine e_next rfl side_allA ?_
        refine e_fl rfl rfl (fun hs_ => PF.mk rfl (v_fieldB 1 Tryz.underlying48 rfl rfl fz46 rfl) hs_) ?_
        refine e_eff rfl (by intro cs b hc; cases hc) (by intro c hc; cases hc) ?_
        refine o_store ty46 rfl rfl rfl rfl rfl (by repeat (first | exact Swap.here | apply Swap.there)) rfl ?_
        refine ops_nil ?_
        refine e_next_ (side_nil (by kernel_rfl)) ?_
        refine e_done ?_
        refine post_out ?_
        refine post_next ?_
        refine code_region ?_
        refine op_v (v_move rfl) rfl ?_
        refine op_v (v_addb rfl rfl rfl (by omega)) rfl ?_
        refine op_v (v_assign rfl) rfl ?_
        refine ops_nil ?_
        refine PostJ.view (View.drop Del.here) ?_
        refine post_again (ts.length - (k + 1)) [(1, .int .i64 n), (2, .pointer (some ⟨b2, 0, none⟩)), (4, .pointer (some ⟨b4, 0, none⟩)), (5, .pointer (some ⟨b5, 0, none⟩)), (6, .int .i64 ((k + 1 : Nat) : Int))] (by omega) ⟨k + 1, a35, c35, xs ++ [.int .i64 (shT n ts[k]).head, .slice p33 (shT n ts[k]).args.length q33], rfl, hlt, rfl, Imm.le_trans hI0 hI33, rfl, ?_⟩ ⟨rfl, rfl, rfl, rfl, rfl, trivial⟩
        rw [rbL_take (shF n) ts k hlt]
        exact (hp.mono hI33).app (RowT.one hv33)
      · have hge : k = ts.length := by simp at hc1; omega
        subst hge
        rw [List.take_length] at hp
        refine code_exit ?_
        refine post_exit_then ?_
        refine post_exit_then ?_
        refine post_exit ?_
        refine post_next ?_
        refine code_seq ?_
        refine code_region ?_
        refine OpsJ.freezeRow Del.here ?_
        rintro I37 ar2 cr2 hI37 hvr hcr hlr hcells
        cases hvr
        refine op_v (v_loadA ty48 rfl rfl) rfl ?_
        refine o_store ty48 rfl rfl rfl rfl rfl (by repeat (first | exact Swap.here | apply Swap.there)) rfl ?_
        refine ops_nil ?_
        refine post_next ?_
        refine code_ret ?_
        refine post_ret (rs := [.cell 4 48]) rfl (List.Perm.refl _) (.cons (.cell rfl ty48 (by repeat (first | exact Has.here | apply Has.there)) rfl) .nil) (List.nil_sublist _) ?_
        exact ⟨by show RepT _ _ (shT n (.mk h ts)); unfold shT; simp only [rbT]; rw [if_neg hneg]; have hl := rbL_len (shF n) ts; have := RowT.rep (h := h) hcells (hp.mono hI37) hr (by rw [hl]; exact hcr) (by rw [hl]; exact hb); rw [hl] at this; exact this, rfl⟩
theorem RShift3_does {I : Imm} {n : Int} {v : Value} {t : T} (hv : RepT I v t) (hbig : t.size ≤ 1000000000) :
    Does Tryz.prog 58 [v, .int .i64 n] I [] (fun v I' δ' => (∃ u, v = .tuple #[u, .int .i64 (shE n t)] ∧ RepT I' u (if shE n t = 0 then shT n t else zeroT)) ∧ δ' = []) := by
  obtain ⟨a0, c0, rfl, hr0⟩ := hv.shape
  refine Does.intro Tryz.func58 rfl Tryz.ntmps58 rfl fun w0 => ?_
  refine code_seq ?_
  refine code_region ?_
  refine o_box rfl rfl rfl (fun b2 => ?_)
  refine o_alloc z48 rfl rfl (fun b4 => ?_)
  refine op_v (v_assign rfl) rfl ?_
  refine ops_nil ?_
  refine post_next ?_
  refine code_seq ?_
  refine code_seq ?_
  refine code_region ?_
  refine op_v (v_loadA ty48 rfl rfl) rfl ?_
  refine op_call pl100 rfl rfl ((RRight1_does (hv.mono Imm.leA) hbig)) Parts.none ?_
  rintro v9 I9 _ hI9 ⟨rfl, rfl⟩
  by_cases h10 : chkT t = 0
  · rw [show decide (chkT t = 0) = true by simpa using h10]
    refine op_v (v_not rfl) rfl ?_
    refine op_v (v_move rfl) rfl ?_
    refine op_want rfl rfl ?_
    refine op_v (v_move rfl) rfl ?_
    by_cases h13 : n < 0
    · have he : shE n t = 1 := by unfold shE; rw [if_neg (by omega), if_pos h13]
      first
        | (refine op_want rfl rfl ?_
           refine op_v (v_cmptA rfl rfl rfl) rfl ?_)
        | (refine op_skip rfl rfl (by simp [undef]) rfl ?_)
      refine op_v (v_pickf rfl rfl) rfl ?_
      refine op_v (v_move rfl) rfl ?_
      refine op_skip rfl rfl (by simp [undef]) rfl ?_
      refine op_skip rfl rfl (by simp [undef]) rfl ?_
      refine op_v (v_pickt rfl rfl) rfl ?_
      refine ops_nil ?_
      refine post_next ?_
      refine code_cond_t rfl ?_
      refine code_seq ?_
      refine code_region ?_
      refine op_v (v_build bl48 rfl rfl) rfl ?_
      refine o_store ty48 rfl rfl rfl rfl rfl (by repeat (first | exact Swap.here | apply Swap.there)) rfl ?_
      refine op_v (v_assign rfl) rfl ?_
      refine ops_nil ?_
      refine post_next ?_
      refine code_ret ?_
      refine post_ret_then ?_
      refine post_ret (rs := [.cell 4 48, .tmp 5]) rfl (List.Perm.refl _) (.cons (.cell rfl ty48 (by repeat (first | exact Has.here | apply Has.there)) rfl) (.cons (.tmp rfl) .nil)) (List.nil_sublist _) ?_
      exact ⟨⟨_, by rw [he]; rfl, by rw [he, if_neg (by decide)]; exact zeroT_rep _⟩, rfl⟩
    · first
        | (refine op_want rfl rfl ?_
           refine op_v (v_cmpfA rfl rfl rfl) rfl ?_)
        | (refine op_skip rfl rfl (by simp [undef]) rfl ?_)
      refine op_v (v_pickf rfl rfl) rfl ?_
      refine op_v (v_move rfl) rfl ?_
      refine op_want rfl rfl ?_
      refine op_v (v_move rfl) rfl ?_
      by_cases h17 : 255 < n
      · have he : shE n t = 1 := by unfold shE; rw [if_neg (by omega), if_neg h13, if_pos h17]
        first
          | (refine op_want rfl rfl ?_
             refine op_v (v_cmptA rfl rfl rfl) rfl ?_)
          | (refine op_skip rfl rfl (by simp [undef]) rfl ?_)
        refine op_v (v_pickf rfl rfl) rfl ?_
        refine ops_nil ?_
        refine post_next ?_
        refine code_cond_t rfl ?_
        refine code_seq ?_
        refine code_region ?_
        refine op_v (v_build bl48 rfl rfl) rfl ?_
        refine o_store ty48 rfl rfl rfl rfl rfl (by repeat (first | exact Swap.here | apply Swap.there)) rfl ?_
        refine op_v (v_assign rfl) rfl ?_
        refine ops_nil ?_
        refine post_next ?_
        refine code_ret ?_
        refine post_ret_then ?_
        refine post_ret (rs := [.cell 4 48, .tmp 5]) rfl (List.Perm.refl _) (.cons (.cell rfl ty48 (by repeat (first | exact Has.here | apply Has.there)) rfl) (.cons (.tmp rfl) .nil)) (List.nil_sublist _) ?_
        exact ⟨⟨_, by rw [he]; rfl, by rw [he, if_neg (by decide)]; exact zeroT_rep _⟩, rfl⟩
      · have he : shE n t = chkT (shT n t) := by unfold shE; rw [if_neg (by omega), if_neg h13, if_neg h17]
        first
          | (refine op_want rfl rfl ?_
             refine op_v (v_cmpfA rfl rfl rfl) rfl ?_)
          | (refine op_skip rfl rfl (by simp [undef]) rfl ?_)
        refine op_v (v_pickf rfl rfl) rfl ?_
        refine ops_nil ?_
        refine post_next ?_
        refine code_cond_f rfl ?_
        refine code_skip ?_
        refine post_next ?_
        refine code_seq ?_
        refine code_region ?_
        refine op_v (v_loadA ty48 rfl rfl) rfl ?_
        refine op_v (v_move rfl) rfl ?_
        refine op_call pl103 rfl rfl ((Rshift_does (n := n) (by omega) (by omega) _ _ (Nat.le_refl _) h10 _ _ (hv.mono Imm.leA))) Parts.none ?_
        rintro v23 I23 _ hI23 ⟨hv23, rfl⟩
        refine op_call pl102 rfl rfl ((Rend_does hv23 (by have := shT_size n t; omega))) Parts.none ?_
        rintro v24 I24 _ hI24 ⟨⟨u24, rfl, hv24⟩, rfl⟩
        obtain ⟨a24, c24, rfl, _⟩ := hv24.shape
        refine op_v (v_move rfl) rfl ?_
        refine op_v (v_extract rfl rfl) rfl ?_
        refine op_v (v_extract rfl rfl) rfl ?_
        refine o_alloc z48 rfl rfl (fun b6 => ?_)
        refine o_store ty48 rfl rfl rfl rfl rfl (by repeat (first | exact Swap.here | apply Swap.there)) rfl ?_
        refine op_v (v_assign rfl) rfl ?_
        refine ops_nil ?_
        refine post_next ?_
        refine code_seq ?_
        refine code_region ?_
        refine op_v (v_loadA ty48 rfl rfl) rfl ?_
        refine op_v (v_move rfl) rfl ?_
        refine o_store ty48 rfl rfl rfl rfl rfl (by repeat (first | exact Swap.here | apply Swap.there)) rfl ?_
        refine op_v (v_assign rfl) rfl ?_
        refine ops_nil ?_
        refine post_next ?_
        refine code_ret ?_
        refine post_ret (rs := [.cell 4 48, .tmp 5]) rfl (List.Perm.refl _) (.cons (.cell rfl ty48 (by repeat (first | exact Has.here | apply Has.there)) rfl) (.cons (.tmp rfl) .nil)) (List.nil_sublist _) ?_
        exact ⟨⟨_, by rw [he]; rfl, by rw [he]; exact hv24⟩, rfl⟩
  · rw [show decide (chkT t = 0) = false by simpa using h10]
    have he : shE n t = 1 := if_pos h10
    refine op_v (v_not rfl) rfl ?_
    refine op_v (v_move rfl) rfl ?_
    refine op_skip rfl rfl (by simp [undef]) rfl ?_
    refine op_skip rfl rfl (by simp [undef]) rfl ?_
    refine op_v (v_pickt rfl rfl) rfl ?_
    refine op_v (v_move rfl) rfl ?_
    refine op_skip rfl rfl (by simp [undef]) rfl ?_
    refine op_skip rfl rfl (by simp [undef]) rfl ?_
    refine op_v (v_pickt rfl rfl) rfl ?_
    refine ops_nil ?_
    refine post_next ?_
    refine code_cond_t rfl ?_
    refine code_seq ?_
    refine code_region ?_
    refine op_v (v_build bl48 rfl rfl) rfl ?_
    refine o_store ty48 rfl rfl rfl rfl rfl (by repeat (first | exact Swap.here | apply Swap.there)) rfl ?_
    refine op_v (v_assign rfl) rfl ?_
    refine ops_nil ?_
    refine post_next ?_
    refine code_ret ?_
    refine post_ret_then ?_
    refine post_ret (rs := [.cell 4 48, .tmp 5]) rfl (List.Perm.refl _) (.cons (.cell rfl ty48 (by repeat (first | exact Has.here | apply Has.there)) rfl) (.cons (.tmp rfl) .nil)) (List.nil_sublist _) ?_
    exact ⟨⟨_, by rw [he]; rfl, by rw [he, if_neg (by decide)]; exact zeroT_rep _⟩, rfl⟩
end Go.Proofs.YtdbadicpbmndbaaGreat
/- Walks: clauses without variables: the statement. -/
set_option linter.unusedVariables false
set_option linter.unusedSimpArgs false
set_option linter.unnecessarySimpa false
/- short -/
namespace Go.Proofs.YtdbadicpbmndbaaGreat
open Go Lg

end Go.Proofs.YtdbadicpbmndbaaGreat
/- Walks: the document's answer on which clause is greater. -/
set_option linter.unusedVariables false
set_option linter.unusedSimpArgs false
set_option linter.unnecessarySimpa false
/- short -/
namespace Go.Proofs.YtdbadicpbmndbaaGreat
open Go Lg

section
variable {K : Type} [DecidableEq K]
theorem rsX_permR : ∀ (l : List K) {m m' : List K}, m.Perm m' → rsX l m = rsX l m'
  | [], _, _, _ => rfl
  | t :: r, m, m', h => by
    simp only [rsX]
    by_cases hm : t ∈ m
    · rw [if_pos hm, if_pos (h.mem_iff.1 hm), rsX_permR r (h.erase t)]
    · rw [if_neg hm, if_neg (fun q => hm (h.mem_iff.2 q)), rsX_permR r h]
end
/-- those that are not marked -/
def unK {α : Type} : List α → List Bool → List α
  | t :: r, u :: q => if u = true then unK r q else t :: unK r q
  | _, _ => []
theorem unK_mem {α : Type} : ∀ {b : List α} {us : List Bool} (hl : us.length = b.length) {x : α}, x ∈ unK b us ↔ ∃ (j : Nat) (h : j < b.length), us[j]'(by omega) = false ∧ b[j] = x
  | [], [], _, x => by simp [unK]
  | t :: r, u :: q, hl, x => by
    have hl' : q.length = r.length := by simpa using hl
    have ih := unK_mem (b := r) hl' (x := x)
    have key : (∃ (j : Nat) (h : j < (t :: r).length), (u :: q)[j]'(by rw [hl]; exact h) = false ∧ (t :: r)[j] = x) ↔ (u = false ∧ t = x) ∨ ∃ (j : Nat) (h : j < r.length), q[j]'(by omega) = false ∧ r[j] = x := by
      constructor
      · rintro ⟨j, hj, h1, h2⟩
        cases j with
        | zero => exact .inl ⟨h1, h2⟩
        | succ j => exact .inr ⟨j, by simpa using hj, by simpa using h1, by simpa using h2⟩
      · rintro (⟨h1, h2⟩ | ⟨j, hj, h1, h2⟩)
        · exact ⟨0, by simp, h1, h2⟩
        · exact ⟨j + 1, by simpa using hj, by simpa using h1, by simpa using h2⟩
    rw [key]
    cases u
    · simp only [unK, Bool.false_eq_true, if_false, List.mem_cons, ih, true_and]
      exact or_congr_left eq_comm
    · simp only [unK, if_true, ih, Bool.true_eq_false, false_and, false_or]
theorem unK_set {α : Type} : ∀ {b : List α} {us : List Bool} (hl : us.length = b.length) {j : Nat} (hj : j < b.length), us[j]'(by omega) = false → (unK b us).Perm (b[j] :: unK b (us.set j true))
  | [], _, _, j, hj, _ => by simp at hj
  | t :: r, [], hl, _, _, _ => by simp at hl
  | t :: r, u :: q, hl, j, hj, hu => by
    have hl' : q.length = r.length := by simpa using hl
    cases j with
    | zero =>
      simp only [List.getElem_cons_zero] at hu
      subst hu
      simp [unK]
    | succ j =>
      simp only [List.getElem_cons_succ] at hu
      have ih := unK_set hl' (by simpa using hj) hu
      simp only [List.getElem_cons_succ, List.set_cons_succ]
      cases u
      · simp only [unK, Bool.false_eq_true, if_false]
        exact (ih.cons t).trans (List.Perm.swap _ _ _)
      · simp only [unK, if_true]; exact ih
theorem unK_none {α : Type} : ∀ b : List α, unK b (List.replicate b.length false) = b
  | [] => rfl
  | t :: r => by simp [unK, List.replicate_succ, unK_none r]
/-! ### walks -/
theorem without10_does {I : Imm} {va vb : Value} {a b : List Li} (ha : RepC I va a) (hb : RepC I vb b) (hsa : SmC a) (hsb : SmC b) (hla : a.length ≤ 1000000) (hlb : b.length ≤ 1000000) :
    Does Tryz.prog 88 [va, vb] I [] (fun v I' δ' => (∃ O, RepC I' v O ∧ O.map canL = rsX (a.map canL) (b.map canL) ∧ (∀ x ∈ O, x ∈ a) ∧ O.length ≤ a.length) ∧ δ' = []) := by
  obtain ⟨aA, aC, xa, rfl, hca, hba, hcella, hrowa⟩ := ha
  obtain ⟨bA, bC, xb, rfl, hcb, hbb, hcellb, hrowb⟩ := hb
  refine Does.intro Tryz.func88 rfl Tryz.ntmps88 rfl fun w0 => ?_
  refine code_seq ?_
  refine code_region ?_
  refine op_v (v_assign rfl) rfl ?_
  refine ops_nil ?_
  refine post_next ?_
  refine code_seq ?_
  refine code_region ?_
  refine op_v (v_move rfl) rfl ?_
  refine op_v (v_len Tryz.underlying23 rfl) rfl ?_
  refine o_makeSlice (z := .bool false) (size := 1) (bytes := 1) (xs := (List.replicate b.length false).map Value.bool) Tryz.underlying136 (by kernel_rfl) rfl rfl rfl (by omega) (by omega) (by rw [Nat.mul_one]; exact (madeCells_one _ _).trans (by simp)) (fun g12 => ?_)
  refine op_v (v_assign rfl) rfl ?_
  refine ops_nil ?_
  refine post_next ?_
  refine code_seq ?_
  refine code_region ?_
  refine op_v (v_assign rfl) rfl ?_
  refine ops_nil ?_
  refine post_next ?_
  refine code_seq ?_
  refine code_seq ?_
  refine code_region ?_
  refine op_v (v_assign rfl) rfl ?_
  refine ops_nil ?_
  refine post_next ?_
  refine code_block ?_
  have hg12 : (some (⟨g12, 0, none⟩ : Addr)).isSome = true := rfl
  refine CodeJ.view (View.nilRow 59 5) ?_
  refine code_loop (fun m σ' I' δ' => ∃ (i : Nat) (A : Option Addr) (cr : Nat) (out : List Li) (xs : List Value) (us : List Bool), m = a.length - i ∧ i ≤ a.length ∧ σ' = [(0, .slice aA a.length aC), (1, .slice bA b.length bC), (5, .slice (some ⟨g12, 0, none⟩) b.length b.length), (6, .slice A out.length cr), (7, .int .i64 i)] ∧ I.le I' ∧ δ' = [cRow A cr out.length xs, bRow g12 b.length us] ∧ RowE LitE I' xs out ∧ us.length = b.length ∧ out.length ≤ i ∧ (∀ x ∈ out, x ∈ a) ∧ rsX (a.map canL) (b.map canL) = out.map canL ++ rsX ((a.drop i).map canL) ((unK b us).map canL)) a.length [(0, .slice aA a.length aC), (1, .slice bA b.length bC), (5, .slice (some ⟨g12, 0, none⟩) b.length b.length), (6, .slice none 0 0), (7, .int .i64 (0 : Nat))] ⟨0, none, 0, [], [], _, rfl, Nat.zero_le _, rfl, Imm.le_refl _, rfl, rfl, by simp, by simp, fun x h => (by cases h), by rw [unK_none]; rfl⟩ ⟨rfl, rfl, rfl, rfl, rfl, trivial⟩ ?_
  rintro m _ I0 _ ⟨i, A, cr, out, xs, us, rfl, hi, rfl, hI0, rfl, hx, hul, hol, hoa, hrs⟩
  refine code_seq ?_
  refine code_seq ?_
  refine code_region ?_
  refine op_v (v_move rfl) rfl ?_
  refine op_v (v_move rfl) rfl ?_
  refine op_v (v_len Tryz.underlying23 rfl) rfl ?_
  refine op_v (v_cmp rfl rfl rfl) rfl ?_
  refine ops_nil ?_
  refine post_next ?_
  refine code_cond rfl (fun hc0 => ?_) (fun hc0 => ?_)
  · have hlt : i < a.length := by simpa using hc0
    obtain ⟨vi, ⟨ia, ic, ja, jc, rfl, hil, hir⟩, hat1⟩ := hrowa.cellsAt hcella hlt
    have hs1 := hat1.isSome
    have hsi := hsa.at hlt
    rw [List.drop_eq_getElem_cons hlt, List.map_cons, rsX] at hrs
    refine code_skip ?_
    refine post_next ?_
    refine code_seq ?_
    refine code_block ?_
    refine code_seq ?_
    refine code_region ?_
    refine op_v (v_assign rfl) rfl ?_
    refine ops_nil ?_
    refine post_next ?_
    refine code_seq ?_
    refine code_seq ?_
    refine code_region ?_
    refine op_v (v_assign rfl) rfl ?_
    refine ops_nil ?_
    refine post_next ?_
    refine code_block ?_
    refine code_loop (fun m σ' I' δ' => ∃ (k : Nat) (at' : Int), m = b.length - k ∧ k ≤ b.length ∧ σ' = [(0, .slice aA a.length aC), (1, .slice bA b.length bC), (5, .slice (some ⟨g12, 0, none⟩) b.length b.length), (6, .slice A out.length cr), (7, .int .i64 i), (8, .int .i64 at'), (9, .int .i64 k)] ∧ I0.le I' ∧ δ' = [cRow A cr out.length xs, bRow g12 b.length us] ∧ ((at' = -1 ∧ ∀ (j : Nat) (h : j < b.length), j < k → us[j]'(by omega) = false → sameL a[i] b[j] = false) ∨ ∃ (j : Nat) (h : j < b.length), at' = j ∧ us[j]'(by omega) = false ∧ sameL a[i] b[j] = true)) b.length [(0, .slice aA a.length aC), (1, .slice bA b.length bC), (5, .slice (some ⟨g12, 0, none⟩) b.length b.length), (6, .slice A out.length cr), (7, .int .i64 i), (8, .int .i64 (-1)), (9, .int .i64 (0 : Nat))] ⟨0, -1, rfl, Nat.zero_le _, rfl, Imm.le_refl _, rfl, .inl ⟨rfl, fun j _ h => by omega⟩⟩ ⟨rfl, rfl, rfl, rfl, rfl, rfl, rfl, trivial⟩ ?_
    rintro m _ I1 _ ⟨k, at', rfl, hk, rfl, hI1, rfl, hat'⟩
    refine code_seq ?_
    refine code_seq ?_
    refine code_region ?_
    refine op_v (v_move rfl) rfl ?_
    refine op_v (v_move rfl) rfl ?_
    refine op_v (v_len Tryz.underlying23 rfl) rfl ?_
    by_cases h22 : k < b.length
    · refine op_v (v_cmptA rfl rfl rfl) rfl ?_
      refine op_v (v_move rfl) rfl ?_
      refine op_want rfl rfl ?_
      refine op_v (v_move rfl) rfl ?_
      by_cases h25 : at' < 0
      · have hno : ∀ (j : Nat) (h : j < b.length), j < k → us[j]'(by omega) = false → sameL a[i] b[j] = false := by
          rcases hat' with ⟨_, h⟩ | ⟨j, hj, h, _⟩
          · exact h
          · omega
        have hatm : at' = -1 := by
          rcases hat' with ⟨h, _⟩ | ⟨j, hj, h, _⟩
          · exact h
          · omega
        subst hatm
        obtain ⟨vk, ⟨ka, kc, la, lc, rfl, hkl, hkr⟩, hat2⟩ := hrowb.cellsAt hcellb h22
        have hs2 := hat2.isSome
        have hsk := hsb.at h22
        have hku : k < us.length := by omega
        first
          | (refine op_want rfl rfl ?_
             refine op_v (v_cmptA rfl rfl rfl) rfl ?_)
          | (refine op_skip rfl rfl (by simp [undef]) rfl ?_)
        refine op_v (v_pickt rfl rfl) rfl ?_
        refine ops_nil ?_
        refine post_next ?_
        refine code_cond_t rfl ?_
        refine code_skip ?_
        refine post_next ?_
        refine code_seq ?_
        refine code_block ?_
        refine code_seq ?_
        refine code_draw (.fl 0 (.fl 1 (.fl 2 (.fl 3 (.fl 4 (.fl 5 (.fl 6 (.fl 7 (.fl 8 (.fl 9 (.fl 10 (.fl 11 (.fl 12 (.fl 13 (.ef 14 (.fl 15 .done)))))))))))))))) (fun _ => _) mixed (by kernel_rfl) (by kernel_rfl) (fun _ => (List.Sublist.refl _)) ?_
        refine e_fl rfl rfl (fun hs_ => PF.mk rfl (v_move rfl) hs_) ?_
        refine e_fl rfl rfl (fun hs_ => PF.mk rfl (v_move rfl) hs_) ?_
        refine e_fl rfl rfl (fun hs_ => PF.mk rfl (v_indexA Tryz.underlying136 sz4 rfl rfl) hs_) ?_
        refine e_fl rfl rfl (fun hs_ => PF.mk rfl (v_loadRow ty4 rfl (Has.there Has.here) rfl (ld_at (cs := us.map Value.bool) (o := k * 1) (x := .bool us[k]) (by simp [hku]))) hs_) ?_
        by_cases h33 : us[k] = true
        · rw [h33]
          refine e_fl rfl rfl (fun hs_ => PF.mk rfl (v_not rfl) hs_) ?_
          refine e_fl rfl rfl (fun hs_ => PF.mk rfl (v_move rfl) hs_) ?_
          refine e_fl rfl rfl (fun hs_ => PF.mks rfl (by intro c hc; cases hc) rfl rfl (by simp [undef]) hs_) ?_
          refine e_fl rfl rfl (fun hs_ => PF.mks rfl (by intro c hc; cases hc) rfl rfl (by simp [undef]) hs_) ?_
          refine e_fl rfl rfl (fun hs_ => PF.mks rfl (by intro c hc; cases hc) rfl rfl (by simp [undef]) hs_) ?_
          refine e_fl rfl rfl (fun hs_ => PF.mks rfl (by intro c hc; cases hc) rfl rfl (by simp [undef]) hs_) ?_
          refine e_fl rfl rfl (fun hs_ => PF.mks rfl (by intro c hc; cases hc) rfl rfl (by simp [undef]) hs_) ?_
          refine e_fl rfl rfl (fun hs_ => PF.mks rfl (by intro c hc; cases hc) rfl rfl (by simp [undef]) hs_) ?_
          refine e_fl rfl rfl (fun hs_ => PF.mks rfl (by intro c hc; cases hc) rfl rfl (by simp [undef]) hs_) ?_
          refine e_fl rfl rfl (fun hs_ => PF.mks rfl (by intro c hc; cases hc) rfl rfl (by simp [undef]) hs_) ?_
          refine e_eff rfl (by intro cs b hc; cases hc) (by intro c hc; cases hc) ?_
          refine op_skip rfl rfl (by simp [undef]) rfl ?_
          refine ops_nil ?_
          refine e_next rfl side_allA ?_
          refine e_fl rfl rfl (fun hs_ => PF.mk rfl (v_pickf rfl rfl) hs_) ?_
          refine e_done ?_
          refine post_next ?_
          refine code_cond_f rfl ?_
          refine code_skip ?_
          refine post_out ?_
          refine post_next ?_
          refine code_region ?_
          refine op_v (v_move rfl) rfl ?_
          refine op_v (v_addb rfl rfl rfl (by omega)) rfl ?_
          refine op_v (v_assign rfl) rfl ?_
          refine ops_nil ?_
          refine post_again (b.length - (k + 1)) [(0, .slice aA a.length aC), (1, .slice bA b.length bC), (5, .slice (some ⟨g12, 0, none⟩) b.length b.length), (6, .slice A out.length cr), (7, .int .i64 i), (8, .int .i64 (-1)), (9, .int .i64 (k + 1 : Nat))] (by omega) ⟨k + 1, -1, rfl, h22, rfl, Imm.leA, rfl, .inl ⟨rfl, fun j hj hjk hu => ?_⟩⟩ ⟨rfl, rfl, rfl, rfl, rfl, rfl, rfl, trivial⟩
          rcases Nat.lt_or_ge j k with hq | hq
          · exact hno j hj hq hu
          have hq2 : j = k := by omega
          subst hq2
          rw [h33] at hu; cases hu
        · have h33' : us[k] = false := by simpa using h33
          rw [h33']
          refine e_fl rfl rfl (fun hs_ => PF.mk rfl (v_not rfl) hs_) ?_
          refine e_fl rfl rfl (fun hs_ => PF.mk rfl (v_move rfl) hs_) ?_
          refine e_fl rfl rfl (fun hs_ => PF.mkg rfl rfl rfl (v_move rfl) hs_) ?_
          refine e_fl rfl rfl (fun hs_ => PF.mkg rfl rfl rfl (v_move rfl) hs_) ?_
          refine e_fl rfl rfl (fun hs_ => PF.mkg rfl rfl rfl (v_indexA Tryz.underlying23 sz59 rfl rfl) hs_) ?_
          refine e_fl rfl rfl (fun hs_ => PF.mkg rfl rfl rfl (v_loadI0 ty59 (hat1.mono Imm.leA) rfl rfl rfl) hs_) ?_
          refine e_fl rfl rfl (fun hs_ => PF.mkg rfl rfl rfl (v_move rfl) hs_) ?_
          refine e_fl rfl rfl (fun hs_ => PF.mkg rfl rfl rfl (v_move rfl) hs_) ?_
          refine e_fl rfl rfl (fun hs_ => PF.mkg rfl rfl rfl (v_indexA Tryz.underlying23 sz59 rfl rfl) hs_) ?_
          refine e_fl rfl rfl (fun hs_ => PF.mkg rfl rfl rfl (v_loadI0 ty59 (hat2.mono Imm.leA) rfl rfl rfl) hs_) ?_
          refine e_eff rfl (by intro cs b hc; cases hc) (by intro c hc; cases hc) ?_
          refine op_want rfl rfl ?_
          refine op_call pl128 rfl rfl ((RLSame_does (x := a[i]) (y := b[k]) ⟨ia, ic, ja, jc, rfl, hil.mono Imm.leA, hir.mono Imm.leA⟩ ⟨ka, kc, la, lc, rfl, hkl.mono Imm.leA, hkr.mono Imm.leA⟩ hsi.1 hsi.2 hsk.1 hsk.2)) Parts.none ?_
          rintro _ I43 _ hI43 ⟨rfl, rfl⟩
          refine ops_nil ?_
          refine e_next rfl side_allA ?_
          by_cases h44 : sameL a[i] b[k] = true
          · rw [h44]
            refine e_fl rfl rfl (fun hs_ => PF.mk rfl (v_pickt rfl rfl) hs_) ?_
            refine e_done ?_
            refine post_next ?_
            refine code_cond_t rfl ?_
            refine code_region ?_
            refine op_v (v_move rfl) rfl ?_
            refine op_v (v_assign rfl) rfl ?_
            refine ops_nil ?_
            refine post_out ?_
            refine post_next ?_
            refine code_region ?_
            refine op_v (v_move rfl) rfl ?_
            refine op_v (v_addb rfl rfl rfl (by omega)) rfl ?_
            refine op_v (v_assign rfl) rfl ?_
            refine ops_nil ?_
            refine post_again (b.length - (k + 1)) [(0, .slice aA a.length aC), (1, .slice bA b.length bC), (5, .slice (some ⟨g12, 0, none⟩) b.length b.length), (6, .slice A out.length cr), (7, .int .i64 i), (8, .int .i64 k), (9, .int .i64 (k + 1 : Nat))] (by omega) ⟨k + 1, k, rfl, h22, rfl, Imm.leA, rfl, .inr ⟨k, h22, rfl, h33', h44⟩⟩ ⟨rfl, rfl, rfl, rfl, rfl, rfl, rfl, trivial⟩
          · have h44' : sameL a[i] b[k] = false := by simpa using h44
            rw [h44']
            refine e_fl rfl rfl (fun hs_ => PF.mk rfl (v_pickt rfl rfl) hs_) ?_
            refine e_done ?_
            refine post_next ?_
            refine code_cond_f rfl ?_
            refine code_skip ?_
            refine post_out ?_
            refine post_next ?_
            refine code_region ?_
            refine op_v (v_move rfl) rfl ?_
            refine op_v (v_addb rfl rfl rfl (by omega)) rfl ?_
            refine op_v (v_assign rfl) rfl ?_
            refine ops_nil ?_
            refine post_again (b.length - (k + 1)) [(0, .slice aA a.length aC), (1, .slice bA b.length bC), (5, .slice (some ⟨g12, 0, none⟩) b.length b.length), (6, .slice A out.length cr), (7, .int .i64 i), (8, .int .i64 (-1)), (9, .int .i64 (k + 1 : Nat))] (by omega) ⟨k + 1, -1, rfl, h22, rfl, Imm.leA, rfl, .inl ⟨rfl, fun j hj hjk hu => ?_⟩⟩ ⟨rfl, rfl, rfl, rfl, rfl, rfl, rfl, trivial⟩
            rcases Nat.lt_or_ge j k with hq | hq
            · exact hno j hj hq hu
            have hq2 : j = k := by omega
            subst hq2
            exact h44'
      · first
          | (refine op_want rfl rfl ?_
             refine op_v (v_cmpfA rfl rfl rfl) rfl ?_)
          | (refine op_skip rfl rfl (by simp [undef]) rfl ?_)
        refine op_v (v_pickt rfl rfl) rfl ?_
        refine ops_nil ?_
        refine post_next ?_
        refine code_cond_f rfl ?_
        refine code_exit ?_
        refine post_exit_then ?_
        refine post_exit_then ?_
        refine post_exit ?_
        refine post_next ?_
        refine code_seq ?_
        refine code_region ?_
        refine op_v (v_move rfl) rfl ?_
        by_cases h47 : at' < 0
        · have hno2 : canL a[i] ∉ (unK b us).map canL := by
            rcases hat' with ⟨_, h⟩ | ⟨j, hj, h, _⟩
            · intro hm
              obtain ⟨x, hx, e⟩ := List.mem_map.1 hm
              obtain ⟨j, hj, h1, rfl⟩ := (unK_mem hul).1 hx
              have := h j hj (by omega) h1
              rw [canL_eq.1 e.symm] at this; cases this
            · omega
          rw [if_neg hno2] at hrs
          refine op_v (v_cmptA rfl rfl rfl) rfl ?_
          refine ops_nil ?_
          refine post_next ?_
          refine code_cond_t rfl ?_
          refine code_region ?_
          refine op_v (v_move rfl) rfl ?_
          refine op_v (v_move rfl) rfl ?_
          refine op_v (v_move rfl) rfl ?_
          refine op_v (v_indexA Tryz.underlying23 sz59 rfl rfl) rfl ?_
          refine op_v (v_loadI0 ty59 (hat1.mono Imm.leA) rfl rfl rfl) rfl ?_
          refine o_buildSlice (xs := [(Go.Operand.tmp 52)]) Tryz.underlying23 bs59 rfl rfl rfl rfl rfl (fun b53 => ?_)
          refine o_append Tryz.underlying23 bs59 rfl rfl rfl (fun v' => by repeat (first | exact Swap.here | apply Swap.there)) (Src.ofRow (by repeat (first | exact Has.here | apply Has.there)) rfl) (by first | rfl | omega | simp) (by simp [cat, cellsL, Value.oneCell']) (by omega) (by omega) (fun a54 c54 => ?_)
          refine op_v (v_assign rfl) rfl ?_
          refine ops_nil ?_
          refine post_out ?_
          refine post_next ?_
          refine code_region ?_
          refine op_v (v_move rfl) rfl ?_
          refine op_v (v_addb rfl rfl rfl (by omega)) rfl ?_
          refine op_v (v_assign rfl) rfl ?_
          refine ops_nil ?_
          refine PostJ.view (View.drop Del.here) ?_
          refine post_again (a.length - (i + 1)) [(0, .slice aA a.length aC), (1, .slice bA b.length bC), (5, .slice (some ⟨g12, 0, none⟩) b.length b.length), (6, .slice a54 (out.length + 1) c54), (7, .int .i64 (i + 1 : Nat))] (by omega) ⟨i + 1, a54, c54, out ++ [a[i]], xs ++ liC a[i] ia ic ja jc, us, rfl, hlt, by simp, Imm.leA, by simp [cat, cellsL], (hx.mono Imm.leA).app (RowE.single ⟨ia, ic, ja, jc, rfl, hil.mono Imm.leA, hir.mono Imm.leA⟩), hul, by simp; omega, fun x hx => by rcases List.mem_append.1 hx with h | h; exact hoa x h; simp at h; subst h; exact List.getElem_mem hlt, by rw [hrs]; simp⟩ ⟨rfl, rfl, rfl, rfl, rfl, trivial⟩
        · obtain ⟨j, hj, hatj, huj, hbj⟩ : ∃ (j : Nat) (h : j < b.length), at' = j ∧ us[j]'(by omega) = false ∧ sameL a[i] b[j] = true := by
            rcases hat' with ⟨h, _⟩ | h
            · omega
            · exact h
          subst hatj
          have hju : j < us.length := by omega
          have hcan := canL_eq.2 hbj
          have hmem : canL a[i] ∈ (unK b us).map canL := List.mem_map.2 ⟨b[j], (unK_mem hul).2 ⟨j, hj, huj, rfl⟩, hcan.symm⟩
          rw [if_pos hmem] at hrs
          have hper := (unK_set hul hj huj).map canL
          rw [List.map_cons, ← hcan] at hper
          have hper2 : (((unK b us).map canL).erase (canL a[i])).Perm ((unK b (us.set j true)).map canL) := by
            have h3 := hper.erase (canL a[i])
            rwa [List.erase_cons_head] at h3
          rw [rsX_permR _ hper2] at hrs
          refine op_v (v_cmpfA rfl rfl rfl) rfl ?_
          refine ops_nil ?_
          refine post_next ?_
          refine code_cond_f rfl ?_
          refine code_region ?_
          refine op_v (v_move rfl) rfl ?_
          refine op_v (v_move rfl) rfl ?_
          refine op_v (v_index Tryz.underlying136 sz4 rfl rfl hj rfl) rfl ?_
          refine o_storeRow (xs' := (us.set j true).map Value.bool) ty4 rfl rfl rfl rfl rfl rfl (by simp [cellsL, hul]) (Swap.there Swap.here) (by rw [List.map_set, Nat.mul_one]; exact stL_one (x := .bool us[j]) (by rw [List.getElem?_map, List.getElem?_eq_getElem hju]; rfl)) ?_
          refine ops_nil ?_
          refine post_out ?_
          refine post_next ?_
          refine code_region ?_
          refine op_v (v_move rfl) rfl ?_
          refine op_v (v_addb rfl rfl rfl (by omega)) rfl ?_
          refine op_v (v_assign rfl) rfl ?_
          refine ops_nil ?_
          refine post_again (a.length - (i + 1)) [(0, .slice aA a.length aC), (1, .slice bA b.length bC), (5, .slice (some ⟨g12, 0, none⟩) b.length b.length), (6, .slice A out.length cr), (7, .int .i64 (i + 1 : Nat))] (by omega) ⟨i + 1, A, cr, out, xs, us.set j true, rfl, hlt, rfl, Imm.leA, rfl, hx.mono Imm.leA, by simp [hul], by omega, hoa, hrs⟩ ⟨rfl, rfl, rfl, rfl, rfl, trivial⟩
    · refine op_v (v_cmpfA rfl rfl rfl) rfl ?_
      refine op_v (v_move rfl) rfl ?_
      refine op_skip rfl rfl (by simp [undef]) rfl ?_
      refine op_skip rfl rfl (by simp [undef]) rfl ?_
      refine op_v (v_pickf rfl rfl) rfl ?_
      refine ops_nil ?_
      refine post_next ?_
      refine code_cond_f rfl ?_
      refine code_exit ?_
      refine post_exit_then ?_
      refine post_exit_then ?_
      refine post_exit ?_
      refine post_next ?_
      refine code_seq ?_
      refine code_region ?_
      refine op_v (v_move rfl) rfl ?_
      by_cases h47 : at' < 0
      · have hno2 : canL a[i] ∉ (unK b us).map canL := by
          rcases hat' with ⟨_, h⟩ | ⟨j, hj, h, _⟩
          · intro hm
            obtain ⟨x, hx, e⟩ := List.mem_map.1 hm
            obtain ⟨j, hj, h1, rfl⟩ := (unK_mem hul).1 hx
            have := h j hj (by omega) h1
            rw [canL_eq.1 e.symm] at this; cases this
          · omega
        rw [if_neg hno2] at hrs
        refine op_v (v_cmptA rfl rfl rfl) rfl ?_
        refine ops_nil ?_
        refine post_next ?_
        refine code_cond_t rfl ?_
        refine code_region ?_
        refine op_v (v_move rfl) rfl ?_
        refine op_v (v_move rfl) rfl ?_
        refine op_v (v_move rfl) rfl ?_
        refine op_v (v_indexA Tryz.underlying23 sz59 rfl rfl) rfl ?_
        refine op_v (v_loadI0 ty59 (hat1.mono Imm.leA) rfl rfl rfl) rfl ?_
        refine o_buildSlice (xs := [(Go.Operand.tmp 52)]) Tryz.underlying23 bs59 rfl rfl rfl rfl rfl (fun b53 => ?_)
        refine o_append Tryz.underlying23 bs59 rfl rfl rfl (fun v' => by repeat (first | exact Swap.here | apply Swap.there)) (Src.ofRow (by repeat (first | exact Has.here | apply Has.there)) rfl) (by first | rfl | omega | simp) (by simp [cat, cellsL, Value.oneCell']) (by omega) (by omega) (fun a54 c54 => ?_)
        refine op_v (v_assign rfl) rfl ?_
        refine ops_nil ?_
        refine post_out ?_
        refine post_next ?_
        refine code_region ?_
        refine op_v (v_move rfl) rfl ?_
        refine op_v (v_addb rfl rfl rfl (by omega)) rfl ?_
        refine op_v (v_assign rfl) rfl ?_
        refine ops_nil ?_
        refine PostJ.view (View.drop Del.here) ?_
        refine post_again (a.length - (i + 1)) [(0, .slice aA a.length aC), (1, .slice bA b.length bC), (5, .slice (some ⟨g12, 0, none⟩) b.length b.length), (6, .slice a54 (out.length + 1) c54), (7, .int .i64 (i + 1 : Nat))] (by omega) ⟨i + 1, a54, c54, out ++ [a[i]], xs ++ liC a[i] ia ic ja jc, us, rfl, hlt, by simp, Imm.leA, by simp [cat, cellsL], (hx.mono Imm.leA).app (RowE.single ⟨ia, ic, ja, jc, rfl, hil.mono Imm.leA, hir.mono Imm.leA⟩), hul, by simp; omega, fun x hx => by rcases List.mem_append.1 hx with h | h; exact hoa x h; simp at h; subst h; exact List.getElem_mem hlt, by rw [hrs]; simp⟩ ⟨rfl, rfl, rfl, rfl, rfl, trivial⟩
      · obtain ⟨j, hj, hatj, huj, hbj⟩ : ∃ (j : Nat) (h : j < b.length), at' = j ∧ us[j]'(by omega) = false ∧ sameL a[i] b[j] = true := by
          rcases hat' with ⟨h, _⟩ | h
          · omega
          · exact h
        subst hatj
        have hju : j < us.length := by omega
        have hcan := canL_eq.2 hbj
        have hmem : canL a[i] ∈ (unK b us).map canL := List.mem_map.2 ⟨b[j], (unK_mem hul).2 ⟨j, hj, huj, rfl⟩, hcan.symm⟩
        rw [if_pos hmem] at hrs
        have hper := (unK_set hul hj huj).map canL
        rw [List.map_cons, ← hcan] at hper
        have hper2 : (((unK b us).map canL).erase (canL a[i])).Perm ((unK b (us.set j true)).map canL) := by
          have h3 := hper.erase (canL a[i])
          rwa [List.erase_cons_head] at h3
        rw [rsX_permR _ hper2] at hrs
        refine op_v (v_cmpfA rfl rfl rfl) rfl ?_
        refine ops_nil ?_
        refine post_next ?_
        refine code_cond_f rfl ?_
        refine code_region ?_
        refine op_v (v_move rfl) rfl ?_
        refine op_v (v_move rfl) rfl ?_
        refine op_v (v_index Tryz.underlying136 sz4 rfl rfl hj rfl) rfl ?_
        refine o_storeRow (xs' := (us.set j true).map Value.bool) ty4 rfl rfl rfl rfl rfl rfl (by simp [cellsL, hul]) (Swap.there Swap.here) (by rw [List.map_set, Nat.mul_one]; exact stL_one (x := .bool us[j]) (by rw [List.getElem?_map, List.getElem?_eq_getElem hju]; rfl)) ?_
        refine ops_nil ?_
        refine post_out ?_
        refine post_next ?_
        refine code_region ?_
        refine op_v (v_move rfl) rfl ?_
        refine op_v (v_addb rfl rfl rfl (by omega)) rfl ?_
        refine op_v (v_assign rfl) rfl ?_
        refine ops_nil ?_
        refine post_again (a.length - (i + 1)) [(0, .slice aA a.length aC), (1, .slice bA b.length bC), (5, .slice (some ⟨g12, 0, none⟩) b.length b.length), (6, .slice A out.length cr), (7, .int .i64 (i + 1 : Nat))] (by omega) ⟨i + 1, A, cr, out, xs, us.set j true, rfl, hlt, rfl, Imm.leA, rfl, hx.mono Imm.leA, by simp [hul], by omega, hoa, hrs⟩ ⟨rfl, rfl, rfl, rfl, rfl, trivial⟩
  · have hge : i = a.length := by simp at hc0; omega
    refine code_exit ?_
    refine post_exit_then ?_
    refine post_exit_then ?_
    refine post_exit ?_
    refine post_next ?_
    refine code_seq ?_
    refine code_region ?_
    refine OpsJ.freezeRow Del.here ?_
    rintro I58 a58 c58 hI58 hq hc58 hl58 hcells58
    cases hq
    subst hge
    rw [List.drop_length, List.map_nil, rsX, List.append_nil] at hrs
    refine op_v (v_move rfl) rfl ?_
    refine op_v (v_assign rfl) rfl ?_
    refine ops_nil ?_
    refine post_next ?_
    refine code_ret ?_
    refine post_ret (rs := [.tmp 4]) rfl (List.Perm.refl _) (.cons (.tmp rfl) .nil) (List.nil_sublist _) ?_
    exact ⟨⟨out, ⟨_, _, _, rfl, hc58, by omega, hcells58, hx.mono Imm.leA⟩, hrs.symm, hoa, by omega⟩, rfl⟩
end Go.Proofs.YtdbadicpbmndbaaGreat
/- Walks: the document's answer on which clause is greater: over, Stand, Compare. -/
set_option linter.unusedVariables false
set_option linter.unusedSimpArgs false
set_option linter.unnecessarySimpa false
/- short -/
namespace Go.Proofs.YtdbadicpbmndbaaGreat
open Go Lg

theorem any_take10 {α : Type} (p : α → Bool) (l : List α) {k : Nat} (h : k < l.length) : (l.take (k + 1)).any p = ((l.take k).any p || p l[k]) := by
  rw [List.take_succ_eq_append_getElem h, List.any_append]; simp
def ovB (gs : List Sy) (a b : List Li) : Bool := (b.all fun y => a.any fun x => gtL gs x y) && decide (0 < a.length)
theorem Rover10_does {I : Imm} {vg va vb : Value} {gs : List Sy} {a b : List Li} (hg : RepG I vg gs) (ha : RepC I va a) (hb : RepC I vb b) (hoa : ∀ x ∈ a, OkL gs x) (hob : ∀ x ∈ b, OkL gs x) :
    Does Tryz.prog 89 [vg, va, vb] I [] (fun v I' δ' => v = .bool (ovB gs a b) ∧ δ' = []) := by
  obtain ⟨ga, gc, rfl⟩ := hg.shape
  obtain ⟨aA, aC, xa, rfl, hca, hba, hcella, hrowa⟩ := ha
  obtain ⟨bA, bC, xb, rfl, hcb, hbb, hcellb, hrowb⟩ := hb
  refine Does.intro Tryz.func89 rfl Tryz.ntmps89 rfl fun w0 => ?_
  refine code_seq ?_
  refine code_region ?_
  refine op_v (v_assign rfl) rfl ?_
  refine ops_nil ?_
  refine post_next ?_
  refine code_seq ?_
  refine code_seq ?_
  refine code_region ?_
  refine op_v (v_assign rfl) rfl ?_
  refine ops_nil ?_
  refine post_next ?_
  refine code_block ?_
  refine code_loop (fun m σ' I' δ' => ∃ i : Nat, m = b.length - i ∧ i ≤ b.length ∧ σ' = [(0, .slice ga gs.length gc), (1, .slice aA a.length aC), (2, .slice bA b.length bC), (7, .int .i64 i)] ∧ I.le I' ∧ δ' = [] ∧ ∀ (j : Nat) (h : j < b.length), j < i → a.any (fun t => gtL gs t b[j]) = true) b.length [(0, .slice ga gs.length gc), (1, .slice aA a.length aC), (2, .slice bA b.length bC), (7, .int .i64 (0 : Nat))] ⟨0, rfl, Nat.zero_le _, rfl, Imm.le_refl _, rfl, fun j _ h => by omega⟩ ⟨rfl, rfl, rfl, rfl, trivial⟩ ?_
  rintro m _ I0 _ ⟨i, rfl, hi, rfl, hI0, rfl, hp⟩
  refine code_seq ?_
  refine code_seq ?_
  refine code_region ?_
  refine op_v (v_move rfl) rfl ?_
  refine op_v (v_move rfl) rfl ?_
  refine op_v (v_len Tryz.underlying23 rfl) rfl ?_
  refine op_v (v_cmp rfl rfl rfl) rfl ?_
  refine ops_nil ?_
  refine post_next ?_
  refine code_cond rfl (fun hc0 => ?_) (fun hc0 => ?_)
  · have hlt : i < b.length := by simpa using hc0
    obtain ⟨vi, ⟨la, lc, ra, rc, rfl, hil, hir⟩, hat2⟩ := hrowb.cellsAt hcellb hlt
    have hs2 := hat2.isSome
    have hob2 := hob b[i] (List.getElem_mem hlt)
    refine code_skip ?_
    refine post_next ?_
    refine code_seq ?_
    refine code_block ?_
    refine code_seq ?_
    refine code_region ?_
    refine op_v (v_assign rfl) rfl ?_
    refine ops_nil ?_
    refine post_next ?_
    refine code_seq ?_
    refine code_seq ?_
    refine code_region ?_
    refine op_v (v_assign rfl) rfl ?_
    refine ops_nil ?_
    refine post_next ?_
    refine code_block ?_
    refine code_loop (fun m σ' I' δ' => ∃ k : Nat, m = a.length - k ∧ k ≤ a.length ∧ σ' = [(0, .slice ga gs.length gc), (1, .slice aA a.length aC), (2, .slice bA b.length bC), (7, .int .i64 i), (8, .bool ((a.take k).any fun t => gtL gs t b[i])), (9, .int .i64 k)] ∧ I0.le I' ∧ δ' = []) a.length [(0, .slice ga gs.length gc), (1, .slice aA a.length aC), (2, .slice bA b.length bC), (7, .int .i64 i), (8, .bool false), (9, .int .i64 (0 : Nat))] ⟨0, rfl, Nat.zero_le _, rfl, Imm.le_refl _, rfl⟩ ⟨rfl, rfl, rfl, rfl, rfl, rfl, trivial⟩ ?_
    rintro m _ I1 _ ⟨k, rfl, hk, rfl, hI1, rfl⟩
    refine code_seq ?_
    refine code_seq ?_
    refine code_region ?_
    refine op_v (v_move rfl) rfl ?_
    refine op_v (v_move rfl) rfl ?_
    refine op_v (v_len Tryz.underlying23 rfl) rfl ?_
    refine op_v (v_cmp rfl rfl rfl) rfl ?_
    refine ops_nil ?_
    refine post_next ?_
    refine code_cond rfl (fun hc1 => ?_) (fun hc1 => ?_)
    · have hltk : k < a.length := by simpa using hc1
      obtain ⟨vk, ⟨ka, kc, ma, mc, rfl, hkl, hkr⟩, hat1⟩ := hrowa.cellsAt hcella hltk
      have hs1 := hat1.isSome
      have hoa2 := hoa a[k] (List.getElem_mem hltk)
      have hnext := any_take10 (fun t => gtL gs t b[i]) a hltk
      refine code_skip ?_
      refine post_next ?_
      refine code_seq ?_
      refine code_block ?_
      refine code_draw (.fl 0 (.fl 1 (.fl 2 (.fl 3 (.fl 4 (.fl 5 (.fl 6 (.fl 7 (.fl 8 (.fl 9 (.fl 10 (.ef 11 (.fl 12 (.fl 13 (.ef 14 .done))))))))))))))) (fun _ => _) mixed (by kernel_rfl) (by kernel_rfl) (fun _ => (List.Sublist.refl _)) ?_
      refine e_fl rfl rfl (fun hs_ => PF.mk rfl (v_move rfl) hs_) ?_
      by_cases h23 : ((a.take k).any fun t => gtL gs t b[i]) = true
      · rw [h23] at hnext ⊢
        refine e_fl rfl rfl (fun hs_ => PF.mk rfl (v_move rfl) hs_) ?_
        refine e_fl rfl rfl (fun hs_ => PF.mks rfl (by intro c hc; cases hc) rfl rfl (by simp [undef]) hs_) ?_
        refine e_fl rfl rfl (fun hs_ => PF.mks rfl (by intro c hc; cases hc) rfl rfl (by simp [undef]) hs_) ?_
        refine e_fl rfl rfl (fun hs_ => PF.mks rfl (by intro c hc; cases hc) rfl rfl (by simp [undef]) hs_) ?_
        refine e_fl rfl rfl (fun hs_ => PF.mks rfl (by intro c hc; cases hc) rfl rfl (by simp [undef]) hs_) ?_
        refine e_fl rfl rfl (fun hs_ => PF.mks rfl (by intro c hc; cases hc) rfl rfl (by simp [undef]) hs_) ?_
        refine e_fl rfl rfl (fun hs_ => PF.mks rfl (by intro c hc; cases hc) rfl rfl (by simp [undef]) hs_) ?_
        refine e_fl rfl rfl (fun hs_ => PF.mks rfl (by intro c hc; cases hc) rfl rfl (by simp [undef]) hs_) ?_
        refine e_fl rfl rfl (fun hs_ => PF.mks rfl (by intro c hc; cases hc) rfl rfl (by simp [undef]) hs_) ?_
        refine e_fl rfl rfl (fun hs_ => PF.mks rfl (by intro c hc; cases hc) rfl rfl (by simp [undef]) hs_) ?_
        refine e_eff rfl (by intro cs b hc; cases hc) (by intro c hc; cases hc) ?_
        refine op_skip rfl rfl (by simp [undef]) rfl ?_
        refine ops_nil ?_
        refine e_next rfl side_allA ?_
        refine e_fl rfl rfl (fun hs_ => PF.mks rfl (by intro c hc; cases hc) rfl rfl (by simp [undef]) hs_) ?_
        refine e_fl rfl rfl (fun hs_ => PF.mk rfl (v_pickt rfl rfl) hs_) ?_
        refine e_eff rfl (by intro cs b hc; cases hc) (by intro c hc; cases hc) ?_
        refine op_v (v_assign rfl) rfl ?_
        refine ops_nil ?_
        refine e_next rfl (side_nil (by kernel_rfl)) ?_
        refine e_done ?_
        refine post_out ?_
        refine post_next ?_
        refine code_region ?_
        refine op_v (v_move rfl) rfl ?_
        refine op_v (v_addb rfl rfl rfl (by omega)) rfl ?_
        refine op_v (v_assign rfl) rfl ?_
        refine ops_nil ?_
        refine post_again (a.length - (k + 1)) [(0, .slice ga gs.length gc), (1, .slice aA a.length aC), (2, .slice bA b.length bC), (7, .int .i64 i), (8, .bool true), (9, .int .i64 (k + 1 : Nat))] (by omega) ⟨k + 1, rfl, hltk, by rw [hnext]; rfl, Imm.leA, rfl⟩ ⟨rfl, rfl, rfl, rfl, rfl, rfl, trivial⟩
      · have h23' : ((a.take k).any fun t => gtL gs t b[i]) = false := by simpa using h23
        rw [h23'] at hnext ⊢
        refine e_fl rfl rfl (fun hs_ => PF.mk rfl (v_move rfl) hs_) ?_
        refine e_fl rfl rfl (fun hs_ => PF.mkg rfl rfl rfl (v_move rfl) hs_) ?_
        refine e_fl rfl rfl (fun hs_ => PF.mkg rfl rfl rfl (v_move rfl) hs_) ?_
        refine e_fl rfl rfl (fun hs_ => PF.mkg rfl rfl rfl (v_move rfl) hs_) ?_
        refine e_fl rfl rfl (fun hs_ => PF.mkg rfl rfl rfl (v_indexA Tryz.underlying23 sz59 rfl rfl) hs_) ?_
        refine e_fl rfl rfl (fun hs_ => PF.mkg rfl rfl rfl (v_loadI0 ty59 (hat1.mono Imm.leA) rfl rfl rfl) hs_) ?_
        refine e_fl rfl rfl (fun hs_ => PF.mkg rfl rfl rfl (v_move rfl) hs_) ?_
        refine e_fl rfl rfl (fun hs_ => PF.mkg rfl rfl rfl (v_move rfl) hs_) ?_
        refine e_fl rfl rfl (fun hs_ => PF.mkg rfl rfl rfl (v_indexA Tryz.underlying23 sz59 rfl rfl) hs_) ?_
        refine e_fl rfl rfl (fun hs_ => PF.mkg rfl rfl rfl (v_loadI0 ty59 (hat2.mono Imm.leA) rfl rfl rfl) hs_) ?_
        refine e_eff rfl (by intro cs b hc; cases hc) (by intro c hc; cases hc) ?_
        refine op_want rfl rfl ?_
        refine op_call pl72 rfl rfl ((RLStand_does (x := a[k]) (y := b[i]) (hg.mono Imm.leA) ⟨ka, kc, ma, mc, rfl, hkl.mono Imm.leA, hkr.mono Imm.leA⟩ ⟨la, lc, ra, rc, rfl, hil.mono Imm.leA, hir.mono Imm.leA⟩ hoa2.row hob2.row)) Parts.none ?_
        rintro _ I33 _ hI33 ⟨rfl, rfl⟩
        refine ops_nil ?_
        refine e_next rfl side_allA ?_
        refine e_fl rfl rfl (fun hs_ => PF.mkg rfl rfl rfl (v_cmp (z := gtL gs a[k] b[i]) rfl rfl rfl) hs_) ?_
        refine e_fl rfl rfl (fun hs_ => PF.mk rfl (v_pickf rfl rfl) hs_) ?_
        refine e_eff rfl (by intro cs b hc; cases hc) (by intro c hc; cases hc) ?_
        refine op_v (v_assign rfl) rfl ?_
        refine ops_nil ?_
        refine e_next rfl (side_nil (by kernel_rfl)) ?_
        refine e_done ?_
        refine post_out ?_
        refine post_next ?_
        refine code_region ?_
        refine op_v (v_move rfl) rfl ?_
        refine op_v (v_addb rfl rfl rfl (by omega)) rfl ?_
        refine op_v (v_assign rfl) rfl ?_
        refine ops_nil ?_
        refine post_again (a.length - (k + 1)) [(0, .slice ga gs.length gc), (1, .slice aA a.length aC), (2, .slice bA b.length bC), (7, .int .i64 i), (8, .bool (gtL gs a[k] b[i])), (9, .int .i64 (k + 1 : Nat))] (by omega) ⟨k + 1, rfl, hltk, by rw [hnext]; rfl, Imm.leA, rfl⟩ ⟨rfl, rfl, rfl, rfl, rfl, rfl, trivial⟩
    · have hgek : k = a.length := by simp at hc1; omega
      subst hgek
      rw [List.take_length]
      refine code_exit ?_
      refine post_exit_then ?_
      refine post_exit_then ?_
      refine post_exit ?_
      refine post_next ?_
      refine code_seq ?_
      refine code_region ?_
      by_cases h36 : (a.any fun t => gtL gs t b[i]) = true
      · rw [h36]
        refine op_v (v_move rfl) rfl ?_
        refine op_v (v_not rfl) rfl ?_
        refine ops_nil ?_
        refine post_next ?_
        refine code_cond_f rfl ?_
        refine code_skip ?_
        refine post_out ?_
        refine post_next ?_
        refine code_region ?_
        refine op_v (v_move rfl) rfl ?_
        refine op_v (v_addb rfl rfl rfl (by omega)) rfl ?_
        refine op_v (v_assign rfl) rfl ?_
        refine ops_nil ?_
        refine post_again (b.length - (i + 1)) [(0, .slice ga gs.length gc), (1, .slice aA a.length aC), (2, .slice bA b.length bC), (7, .int .i64 (i + 1 : Nat))] (by omega) ⟨i + 1, rfl, hlt, rfl, Imm.leA, rfl, fun j hj hji => ?_⟩ ⟨rfl, rfl, rfl, rfl, trivial⟩
        rcases Nat.lt_or_ge j i with hq | hq
        · exact hp j hj hq
        have hq2 : j = i := by omega
        subst hq2
        exact h36
      · have h36' : (a.any fun t => gtL gs t b[i]) = false := by simpa using h36
        rw [h36']
        refine op_v (v_move rfl) rfl ?_
        refine op_v (v_not rfl) rfl ?_
        refine ops_nil ?_
        refine post_next ?_
        refine code_cond_t rfl ?_
        refine code_seq ?_
        refine code_region ?_
        refine op_v (v_assign rfl) rfl ?_
        refine ops_nil ?_
        refine post_next ?_
        refine code_ret ?_
        refine post_ret_block ?_
        refine post_ret_then ?_
        refine post_ret_then ?_
        refine post_ret_block ?_
        refine post_ret_then ?_
        refine post_ret (rs := [.tmp 6]) rfl (List.Perm.refl _) (.cons (.tmp rfl) .nil) (List.nil_sublist _) ?_
        have hov : ovB gs a b = false := by
          cases hq : ovB gs a b with
          | false => rfl
          | true =>
            unfold ovB at hq
            rw [Bool.and_eq_true, List.all_eq_true] at hq
            exact absurd (hq.1 b[i] (List.getElem_mem hlt)) h36
        exact ⟨by rw [hov]; rfl, rfl⟩
  · have hge : i = b.length := by simp at hc0; omega
    refine code_exit ?_
    refine post_exit_then ?_
    refine post_exit_then ?_
    refine post_exit ?_
    refine post_next ?_
    refine code_seq ?_
    refine code_region ?_
    refine op_v (v_move rfl) rfl ?_
    refine op_v (v_len Tryz.underlying23 rfl) rfl ?_
    refine op_v (v_cmp rfl rfl rfl) rfl ?_
    refine op_v (v_assign rfl) rfl ?_
    refine ops_nil ?_
    refine post_next ?_
    refine code_ret ?_
    refine post_ret (rs := [.tmp 6]) rfl (List.Perm.refl _) (.cons (.tmp rfl) .nil) (List.nil_sublist _) ?_
    have hall : (b.all fun u => a.any fun t => gtL gs t u) = true := List.all_eq_true.2 fun u hu => by obtain ⟨j, hj, rfl⟩ := List.getElem_of_mem hu; exact hp j hj (by omega)
    exact ⟨bool_b (by unfold ovB; rw [hall, Bool.true_and]; simp), rfl⟩
theorem RStand10_does {I : Imm} {vg va vb : Value} {gs : List Sy} {c d : List Li} (hg : RepG I vg gs) (ha : RepC I va c) (hb : RepC I vb d) (hc : chkC gs c = 0) (hd : chkC gs d = 0) (hs : SmC c) (ht : SmC d) :
    Does Tryz.prog 44 [vg, va, vb] I [] (fun v I' δ' => v = .int .i64 (cmpC gs c d) ∧ δ' = []) := by
  obtain ⟨_, hlc, hgc⟩ := chkC_ok hc
  obtain ⟨_, hld, hgd⟩ := chkC_ok hd
  have hoc : ∀ x ∈ c, OkL gs x := fun x hx => litG_ok (hgc x hx)
  have hod : ∀ x ∈ d, OkL gs x := fun x hx => litG_ok (hgd x hx)
  refine Does.intro Tryz.func44 rfl Tryz.ntmps44 rfl fun w0 => ?_
  refine code_seq ?_
  refine code_region ?_
  refine op_v (v_assign rfl) rfl ?_
  refine ops_nil ?_
  refine post_next ?_
  refine code_seq ?_
  refine code_region ?_
  refine op_v (v_move rfl) rfl ?_
  refine op_v (v_move rfl) rfl ?_
  refine op_call pl88 rfl rfl ((without10_does (ha.mono Imm.leA) (hb.mono Imm.leA) hs ht (by omega) (by omega))) Parts.none ?_
  rintro v11 I11 _ hI11 ⟨⟨X, hX, hXm, hXs, hXl⟩, rfl⟩
  obtain ⟨xa, xc, rfl⟩ := RepE.shape hX
  refine op_v (v_assign rfl) rfl ?_
  refine ops_nil ?_
  refine post_next ?_
  refine code_seq ?_
  refine code_region ?_
  refine op_v (v_move rfl) rfl ?_
  refine op_v (v_move rfl) rfl ?_
  refine op_call pl88 rfl rfl ((without10_does (hb.mono Imm.leA) (ha.mono Imm.leA) ht hs (by omega) (by omega))) Parts.none ?_
  rintro v14 I14 _ hI14 ⟨⟨Y, hY, hYm, hYs, hYl⟩, rfl⟩
  obtain ⟨ya, yc, rfl⟩ := RepE.shape hY
  have hXn : X.length = (rsX (c.map canL) (d.map canL)).length := by rw [← hXm, List.length_map]
  have hYn : Y.length = (rsX (d.map canL) (c.map canL)).length := by rw [← hYm, List.length_map]
  have hov1 : ovB gs X Y = overX (gtL gs) (rsX (c.map canL) (d.map canL)) (rsX (d.map canL) (c.map canL)) := by unfold ovB; rw [overC_X, hXm, hYm]
  have hov2 : ovB gs Y X = overX (gtL gs) (rsX (d.map canL) (c.map canL)) (rsX (c.map canL) (d.map canL)) := by unfold ovB; rw [overC_X, hXm, hYm]
  refine op_v (v_assign rfl) rfl ?_
  refine ops_nil ?_
  refine post_next ?_
  refine code_seq ?_
  refine code_seq ?_
  refine code_region ?_
  refine op_v (v_move rfl) rfl ?_
  refine op_v (v_len Tryz.underlying23 rfl) rfl ?_
  refine op_v (v_move rfl) rfl ?_
  refine op_v (v_len Tryz.underlying23 rfl) rfl ?_
  refine op_v (v_addb rfl rfl rfl (by omega)) rfl ?_
  by_cases h20 : X.length + Y.length = 0
  · refine op_v (v_cmptA rfl rfl rfl) rfl ?_
    refine ops_nil ?_
    refine post_next ?_
    refine code_cond_t rfl ?_
    refine code_seq ?_
    refine code_region ?_
    refine op_v (v_assign rfl) rfl ?_
    refine ops_nil ?_
    refine post_next ?_
    refine code_ret ?_
    refine post_ret_then ?_
    refine post_ret (rs := [.tmp 6]) rfl (List.Perm.refl _) (.cons (.tmp rfl) .nil) (List.nil_sublist _) ?_
    exact ⟨by simp only [outV, cmpC, mulX]; rw [if_pos (by omega)], rfl⟩
  · refine op_v (v_cmpfA rfl rfl rfl) rfl ?_
    refine ops_nil ?_
    refine post_next ?_
    refine code_cond_f rfl ?_
    refine code_skip ?_
    refine post_next ?_
    refine code_seq ?_
    refine code_seq ?_
    refine code_region ?_
    refine op_v (v_move rfl) rfl ?_
    refine op_v (v_move rfl) rfl ?_
    refine op_v (v_move rfl) rfl ?_
    refine op_call pl89 rfl rfl ((Rover10_does (hg.mono Imm.leA) (hX.mono Imm.leA) (hY.mono Imm.leA) (fun x hx => hoc x (hXs x hx)) (fun x hx => hod x (hYs x hx)))) Parts.none ?_
    rintro v24 I24 _ hI24 ⟨rfl, rfl⟩
    refine ops_nil ?_
    refine post_next ?_
    refine code_cond rfl (fun hc1 => ?_) (fun hc1 => ?_)
    · have h24 : ovB gs X Y = true := hc1
      rw [hov1] at h24
      refine code_seq ?_
      refine code_region ?_
      refine op_v (v_assign rfl) rfl ?_
      refine ops_nil ?_
      refine post_next ?_
      refine code_ret ?_
      refine post_ret_then ?_
      refine post_ret (rs := [.tmp 6]) rfl (List.Perm.refl _) (.cons (.tmp rfl) .nil) (List.nil_sublist _) ?_
      exact ⟨by simp only [outV, cmpC, mulX]; rw [if_neg (by omega), if_pos h24], rfl⟩
    · have h24 : ¬ ovB gs X Y = true := by rw [hc1]; simp
      rw [hov1] at h24
      refine code_skip ?_
      refine post_next ?_
      refine code_seq ?_
      refine code_seq ?_
      refine code_region ?_
      refine op_v (v_move rfl) rfl ?_
      refine op_v (v_move rfl) rfl ?_
      refine op_v (v_move rfl) rfl ?_
      refine op_call pl89 rfl rfl ((Rover10_does (hg.mono Imm.leA) (hY.mono Imm.leA) (hX.mono Imm.leA) (fun x hx => hod x (hYs x hx)) (fun x hx => hoc x (hXs x hx)))) Parts.none ?_
      rintro v28 I28 _ hI28 ⟨rfl, rfl⟩
      refine ops_nil ?_
      refine post_next ?_
      refine code_cond rfl (fun hc2 => ?_) (fun hc2 => ?_)
      · have h28 : ovB gs Y X = true := hc2
        rw [hov2] at h28
        refine code_seq ?_
        refine code_region ?_
        refine op_v (v_assign rfl) rfl ?_
        refine ops_nil ?_
        refine post_next ?_
        refine code_ret ?_
        refine post_ret_then ?_
        refine post_ret (rs := [.tmp 6]) rfl (List.Perm.refl _) (.cons (.tmp rfl) .nil) (List.nil_sublist _) ?_
        exact ⟨by simp only [outV, cmpC, mulX]; rw [if_neg (by omega), if_neg h24, if_pos h28], rfl⟩
      · have h28 : ¬ ovB gs Y X = true := by rw [hc2]; simp
        rw [hov2] at h28
        refine code_skip ?_
        refine post_next ?_
        refine code_seq ?_
        refine code_region ?_
        refine op_v (v_assign rfl) rfl ?_
        refine ops_nil ?_
        refine post_next ?_
        refine code_ret ?_
        refine post_ret (rs := [.tmp 6]) rfl (List.Perm.refl _) (.cons (.tmp rfl) .nil) (List.nil_sublist _) ?_
        exact ⟨by simp only [outV, cmpC, mulX]; rw [if_neg (by omega), if_neg h24, if_neg h28], rfl⟩
theorem RCompare10_does {I : Imm} {vg va vb : Value} {gs : List Sy} {c d : List Li} (hg : RepG I vg gs) (ha : RepC I va c) (hb : RepC I vb d) (hs : SmC c) (ht : SmC d) :
    Does Tryz.prog 17 [vg, va, vb] I [] (fun v I' δ' => v = .tuple #[.int .i64 (if cmpE gs c d = 0 then cmpC gs c d else 0), .int .i64 (cmpE gs c d)] ∧ δ' = []) := by
  refine Does.intro Tryz.func17 rfl Tryz.ntmps17 rfl fun w0 => ?_
  refine code_seq ?_
  refine code_region ?_
  refine op_v (v_assign rfl) rfl ?_
  refine op_v (v_assign rfl) rfl ?_
  refine ops_nil ?_
  refine post_next ?_
  refine code_seq ?_
  refine code_region ?_
  refine op_v (v_move rfl) rfl ?_
  refine op_v (v_move rfl) rfl ?_
  refine op_call pl27 rfl rfl ((RCheck10_does hg ha hs)) Parts.none ?_
  rintro v12 I12 _ hI12 ⟨rfl, rfl⟩
  refine op_v (v_assign rfl) rfl ?_
  refine ops_nil ?_
  refine post_next ?_
  refine code_seq ?_
  refine code_seq ?_
  refine code_region ?_
  refine op_v (v_move rfl) rfl ?_
  by_cases h14 : chkC gs c ≠ 0
  · have he : cmpE gs c d = chkC gs c := if_pos h14
    refine op_v (v_cmptA rfl rfl rfl) rfl ?_
    refine ops_nil ?_
    refine post_next ?_
    refine code_cond_t rfl ?_
    refine code_seq ?_
    refine code_region ?_
    refine op_v (v_move rfl) rfl ?_
    refine op_v (v_assign rfl) rfl ?_
    refine op_v (v_assign rfl) rfl ?_
    refine ops_nil ?_
    refine post_next ?_
    refine code_ret ?_
    refine post_ret_then ?_
    refine post_ret (rs := [.tmp 6, .tmp 7]) rfl (List.Perm.refl _) (.cons (.tmp rfl) (.cons (.tmp rfl) .nil)) (List.nil_sublist _) ?_
    exact ⟨by rw [he, if_neg h14]; rfl, rfl⟩
  · have he : cmpE gs c d = chkC gs d := if_neg h14
    refine op_v (v_cmpfA rfl rfl rfl) rfl ?_
    refine ops_nil ?_
    refine post_next ?_
    refine code_cond_f rfl ?_
    refine code_skip ?_
    refine post_next ?_
    refine code_seq ?_
    refine code_region ?_
    refine op_v (v_move rfl) rfl ?_
    refine op_v (v_move rfl) rfl ?_
    refine op_call pl27 rfl rfl ((RCheck10_does (hg.mono Imm.leA) (hb.mono Imm.leA) ht)) Parts.none ?_
    rintro v18 I18 _ hI18 ⟨rfl, rfl⟩
    refine op_v (v_assign rfl) rfl ?_
    refine ops_nil ?_
    refine post_next ?_
    refine code_seq ?_
    refine code_seq ?_
    refine code_region ?_
    refine op_v (v_move rfl) rfl ?_
    by_cases h20 : chkC gs d ≠ 0
    · refine op_v (v_cmptA rfl rfl rfl) rfl ?_
      refine ops_nil ?_
      refine post_next ?_
      refine code_cond_t rfl ?_
      refine code_seq ?_
      refine code_region ?_
      refine op_v (v_move rfl) rfl ?_
      refine op_v (v_assign rfl) rfl ?_
      refine op_v (v_assign rfl) rfl ?_
      refine ops_nil ?_
      refine post_next ?_
      refine code_ret ?_
      refine post_ret_then ?_
      refine post_ret (rs := [.tmp 6, .tmp 7]) rfl (List.Perm.refl _) (.cons (.tmp rfl) (.cons (.tmp rfl) .nil)) (List.nil_sublist _) ?_
      exact ⟨by rw [he, if_neg h20]; rfl, rfl⟩
    · refine op_v (v_cmpfA rfl rfl rfl) rfl ?_
      refine ops_nil ?_
      refine post_next ?_
      refine code_cond_f rfl ?_
      refine code_skip ?_
      refine post_next ?_
      refine code_seq ?_
      refine code_region ?_
      refine op_v (v_move rfl) rfl ?_
      refine op_v (v_move rfl) rfl ?_
      refine op_v (v_move rfl) rfl ?_
      refine op_call pl44 rfl rfl ((RStand10_does (hg.mono Imm.leA) (ha.mono Imm.leA) (hb.mono Imm.leA) (Classical.not_not.1 h14) (Classical.not_not.1 h20) hs ht)) Parts.none ?_
      rintro v25 I25 _ hI25 ⟨rfl, rfl⟩
      refine op_v (v_assign rfl) rfl ?_
      refine op_v (v_assign rfl) rfl ?_
      refine ops_nil ?_
      refine post_next ?_
      refine code_ret ?_
      refine post_ret (rs := [.tmp 6, .tmp 7]) rfl (List.Perm.refl _) (.cons (.tmp rfl) (.cons (.tmp rfl) .nil)) (List.nil_sublist _) ?_
      have h0 : chkC gs d = 0 := Classical.not_not.1 h20
      exact ⟨by rw [he, h0, if_pos rfl]; rfl, rfl⟩
end Go.Proofs.YtdbadicpbmndbaaGreat
/- Walks: the document's answer: what stands apart; two clauses: the statement. -/
set_option linter.unusedVariables false
set_option linter.unusedSimpArgs false
set_option linter.unnecessarySimpa false
/- short -/
namespace Go.Proofs.YtdbadicpbmndbaaGreat
open Go Lg

theorem RApart10_does {I : Imm} {va vb : Value} {c d : List Li} (ha : RepC I va c) (hb : RepC I vb d) (hsc : sizeL (sidesL c) ≤ 10000) (hsd : sizeL (sidesL d) ≤ 10000) :
    Does Tryz.prog 19 [va, vb] I [] (fun v I' δ' => ((apartE c d = true ∧ v = .tuple #[.slice none 0 0, .int .i64 1]) ∨ (apartE c d = false ∧ ∃ a k, v = .tuple #[.slice a d.length k, .int .i64 0] ∧ RepC I' (.slice a d.length k) (apartC c d))) ∧ δ' = []) := by
  have hszc := sizeL_getL hsc
  have hns := norm_size d
  have hsn : SmC (normC d) := smC_of (by omega)
  have hnl : (normC d).length = d.length := ofL_len d _ (by rw [renL_len]; exact sidesL_len d)
  refine Does.intro Tryz.func19 rfl Tryz.ntmps19 rfl fun w0 => ?_
  refine code_seq ?_
  refine code_region ?_
  refine op_v (v_assign rfl) rfl ?_
  refine op_v (v_assign rfl) rfl ?_
  refine ops_nil ?_
  refine post_next ?_
  refine code_seq ?_
  refine code_region ?_
  refine op_v (v_move rfl) rfl ?_
  refine op_call pl54 rfl rfl ((RNorm10_does hb hsd)) Parts.none ?_
  rintro v19 I19 _ hI19 ⟨HR19, rfl⟩
  refine op_v (v_move rfl) rfl ?_
  rcases HR19 with ⟨hbad, rfl⟩ | ⟨hgood, a19, c19, rfl, hr19⟩
  · refine op_v (v_extract rfl rfl) rfl ?_
    refine op_v (v_extract rfl rfl) rfl ?_
    refine op_v (v_assign rfl) rfl ?_
    refine op_v (v_assign rfl) rfl ?_
    refine ops_nil ?_
    refine post_next ?_
    refine code_seq ?_
    refine code_seq ?_
    refine code_region ?_
    refine op_v (v_move rfl) rfl ?_
    refine op_v (v_cmptA rfl rfl rfl) rfl ?_
    refine op_v (v_move rfl) rfl ?_
    refine op_skip rfl rfl (by simp [undef]) rfl ?_
    refine op_skip rfl rfl (by simp [undef]) rfl ?_
    refine op_skip rfl rfl (by simp [undef]) rfl ?_
    refine op_skip rfl rfl (by simp [undef]) rfl ?_
    refine op_v (v_pickt rfl rfl) rfl ?_
    refine ops_nil ?_
    refine post_next ?_
    refine code_cond_t rfl ?_
    refine code_seq ?_
    refine code_region ?_
    refine op_v (v_assign rfl) rfl ?_
    refine op_v (v_assign rfl) rfl ?_
    refine ops_nil ?_
    refine post_next ?_
    refine code_ret ?_
    refine post_ret_then ?_
    refine post_ret (rs := [.tmp 4, .tmp 5]) rfl (List.Perm.refl _) (.cons (.tmp rfl) (.cons (.tmp rfl) .nil)) (List.nil_sublist _) ?_
    exact ⟨.inl ⟨apart_bad1 hbad, rfl⟩, rfl⟩
  · refine op_v (v_extract rfl rfl) rfl ?_
    refine op_v (v_extract rfl rfl) rfl ?_
    refine op_v (v_assign rfl) rfl ?_
    refine op_v (v_assign rfl) rfl ?_
    refine ops_nil ?_
    refine post_next ?_
    refine code_seq ?_
    refine code_seq ?_
    refine code_region ?_
    refine op_v (v_move rfl) rfl ?_
    refine op_v (v_cmpfA rfl rfl rfl) rfl ?_
    refine op_v (v_move rfl) rfl ?_
    refine op_want rfl rfl ?_
    refine op_v (v_move rfl) rfl ?_
    refine op_want rfl rfl ?_
    refine op_call pl56 rfl rfl ((Terms_does (ha.mono Imm.leA))) Parts.none ?_
    rintro v26 I26 _ hI26 ⟨hs26, rfl⟩
    refine op_want rfl rfl ?_
    refine op_call pl55 rfl rfl ((RAll1_does hs26 (fun t ht => by have := hszc t ht; omega))) Parts.none ?_
    rintro v27 I27 _ hI27 ⟨rfl, rfl⟩
    by_cases h28 : (sidesL c).any badT = true
    · have hbc := h28
      rw [h28]
      refine op_want rfl rfl ?_
      refine op_v (v_not rfl) rfl ?_
      refine op_v (v_pickf rfl rfl) rfl ?_
      refine ops_nil ?_
      refine post_next ?_
      refine code_cond_t rfl ?_
      refine code_seq ?_
      refine code_region ?_
      refine op_v (v_assign rfl) rfl ?_
      refine op_v (v_assign rfl) rfl ?_
      refine ops_nil ?_
      refine post_next ?_
      refine code_ret ?_
      refine post_ret_then ?_
      refine post_ret (rs := [.tmp 4, .tmp 5]) rfl (List.Perm.refl _) (.cons (.tmp rfl) (.cons (.tmp rfl) .nil)) (List.nil_sublist _) ?_
      exact ⟨.inl ⟨apart_bad2 hbc, rfl⟩, rfl⟩
    · have hgc : (sidesL c).any badT = false := by simpa using h28
      rw [hgc]
      refine op_want rfl rfl ?_
      refine op_v (v_not rfl) rfl ?_
      refine op_v (v_pickf rfl rfl) rfl ?_
      refine ops_nil ?_
      refine post_next ?_
      refine code_cond_f rfl ?_
      refine code_skip ?_
      refine post_next ?_
      refine code_seq ?_
      refine code_region ?_
      refine op_v (v_assign rfl) rfl ?_
      refine ops_nil ?_
      refine post_next ?_
      refine code_seq ?_
      refine code_region ?_
      refine op_v (v_move rfl) rfl ?_
      refine op_call pl57 rfl rfl ((RVars10_does (ha.mono Imm.leA) hsc)) Parts.none ?_
      rintro v31 I31 _ hI31 ⟨hv31, rfl⟩
      have hvin : ∀ v ∈ uvL [] (sidesL c), 0 ≤ v ∧ v ≤ 255 := fun v hv => varsC_in hgc v ((uv_vars c v).1 hv)
      have hby := byL_uv c
      obtain ⟨V, hV⟩ : ∃ V, V = uvL [] (sidesL c) := ⟨_, rfl⟩
      rw [← hV] at hv31 hvin hby
      have hvl := hv31.len
      obtain ⟨wa, wc, rfl⟩ := hv31.shape
      refine op_v (v_assign rfl) rfl ?_
      refine ops_nil ?_
      refine post_next ?_
      refine code_seq ?_
      refine code_seq ?_
      refine code_region ?_
      refine op_v (v_assign rfl) rfl ?_
      refine ops_nil ?_
      refine post_next ?_
      refine code_block ?_
      refine code_loop (fun m σ' I' δ' => ∃ k : Nat, m = V.length - k ∧ k ≤ V.length ∧ σ' = [(6, .slice a19 d.length c19), (8, .int .i64 (byL (V.take k))), (9, .slice wa V.length wc), (10, .int .i64 k)] ∧ I31.le I' ∧ δ' = []) V.length [(6, .slice a19 d.length c19), (8, .int .i64 0), (9, .slice wa V.length wc), (10, .int .i64 (0 : Nat))] ⟨0, rfl, Nat.zero_le _, rfl, Imm.le_refl _, rfl⟩ ⟨rfl, rfl, rfl, rfl, trivial⟩ ?_
      rintro m _ I0 _ ⟨k, rfl, hk, rfl, hI0, rfl⟩
      refine code_seq ?_
      refine code_seq ?_
      refine code_region ?_
      refine op_v (v_move rfl) rfl ?_
      refine op_v (v_move rfl) rfl ?_
      refine op_v (v_len Tryz.underlying30 rfl) rfl ?_
      refine op_v (v_cmp rfl rfl rfl) rfl ?_
      refine ops_nil ?_
      refine post_next ?_
      refine code_cond rfl (fun hc1 => ?_) (fun hc1 => ?_)
      · have hlt : k < V.length := by simpa using hc1
        have hatk := hv31.atI k hlt
        have hs2 := hatk.isSome
        have hin := hvin _ (List.getElem_mem hlt)
        have hbt := byL_take V k hlt
        refine code_skip ?_
        refine post_next ?_
        refine code_seq ?_
        refine code_block ?_
        refine code_region ?_
        refine op_v (v_move rfl) rfl ?_
        refine op_v (v_move rfl) rfl ?_
        refine op_v (v_move rfl) rfl ?_
        refine op_v (v_indexA Tryz.underlying30 sz3 rfl rfl) rfl ?_
        refine op_v (v_loadI0 ty3 (hatk.mono hI0) rfl rfl rfl) rfl ?_
        refine op_v (v_addb (c := V[k] + 1) rfl rfl rfl (by omega)) rfl ?_
        refine op_v (v_max rfl rfl) rfl ?_
        refine op_v (v_assign rfl) rfl ?_
        refine ops_nil ?_
        refine post_out ?_
        refine post_next ?_
        refine code_region ?_
        refine op_v (v_move rfl) rfl ?_
        refine op_v (v_addb rfl rfl rfl (by omega)) rfl ?_
        refine op_v (v_assign rfl) rfl ?_
        refine ops_nil ?_
        refine post_again (V.length - (k + 1)) [(6, .slice a19 d.length c19), (8, .int .i64 (byL (V.take (k + 1)))), (9, .slice wa V.length wc), (10, .int .i64 (k + 1 : Nat))] (by omega) ⟨k + 1, rfl, hlt, rfl, Imm.leA, rfl⟩ ⟨rfl, by rw [hbt]; rfl, rfl, rfl, trivial⟩
      · have hge : k = V.length := by simp at hc1; omega
        subst hge
        rw [List.take_length, hby]
        refine code_exit ?_
        refine post_exit_then ?_
        refine post_exit_then ?_
        refine post_exit ?_
        refine post_next ?_
        refine code_seq ?_
        refine code_region ?_
        refine op_v (v_assign rfl) rfl ?_
        refine ops_nil ?_
        refine post_next ?_
        refine code_seq ?_
        refine code_seq ?_
        refine code_region ?_
        refine op_v (v_assign rfl) rfl ?_
        refine ops_nil ?_
        refine post_next ?_
        refine code_block ?_
        obtain ⟨nA, nC, xn, hq, hcn, hbn, hcelln, hrown⟩ := id hr19
        rw [hnl] at hq
        cases hq
        obtain ⟨N, hN⟩ : ∃ N, N = normC d := ⟨_, rfl⟩
        rw [← hN] at hcn hbn hrown hsn hnl hr19 hns
        refine CodeJ.view (View.nilRow 59 5) ?_
        refine code_loop (fun m σ' I' δ' => ∃ (k : Nat) (A : Option Addr) (c' : Nat) (zs : List Value), m = N.length - k ∧ k ≤ N.length ∧ σ' = [(6, .slice a19 d.length c19), (8, .int .i64 (byL (varsC c))), (11, .slice A k c'), (12, .int .i64 k)] ∧ I0.le I' ∧ δ' = [cRow A c' k zs] ∧ RowE LitE I' zs ((N.take k).map fun x => ⟨x.neg, shT (apM c) x.l, shT (apM c) x.r⟩) ∧ ∀ j (h : j < N.length), j < k → ¬ badQ c N N[j]) N.length [(6, .slice a19 d.length c19), (8, .int .i64 (byL (varsC c))), (11, .slice none 0 0), (12, .int .i64 (0 : Nat))] ⟨0, none, 0, [], rfl, Nat.zero_le _, rfl, Imm.le_refl _, rfl, rfl, fun j _ h => by omega⟩ ⟨rfl, rfl, rfl, rfl, trivial⟩ ?_
        rintro m _ I1 _ ⟨k2, A, c', zs, rfl, hk2, rfl, hI1, rfl, hzs, hok⟩
        refine code_seq ?_
        refine code_seq ?_
        refine code_region ?_
        refine op_v (v_move rfl) rfl ?_
        refine op_v (v_move rfl) rfl ?_
        refine op_v (v_len Tryz.underlying23 rfl) rfl ?_
        refine op_v (v_cmp rfl rfl rfl) rfl ?_
        refine ops_nil ?_
        refine post_next ?_
        refine code_cond rfl (fun hc2 => ?_) (fun hc2 => ?_)
        · have hlt2 : k2 < N.length := by have h := hc2; simp at h; omega
          obtain ⟨vs, ⟨la, lc, ra, rc, rfl, hl, hr⟩, hat⟩ := hrown.cellsAt hcelln hlt2
          have hs3 := hat.isSome
          have hsk := hsn.at hlt2
          refine code_skip ?_
          refine post_next ?_
          refine code_seq ?_
          refine code_block ?_
          refine code_seq ?_
          refine code_region ?_
          refine op_v (v_move rfl) rfl ?_
          refine op_v (v_move rfl) rfl ?_
          refine op_v (v_indexA Tryz.underlying23 sz59 rfl rfl) rfl ?_
          refine op_v (v_fieldI 1 Tryz.underlying59 rfl rfl fz48 rfl (by assumption)) rfl ?_
          refine op_v (v_loadI ty48 (hat.mono Imm.leA) rfl rfl rfl) rfl ?_
          refine op_v (v_move rfl) rfl ?_
          refine op_v (v_min rfl rfl) rfl ?_
          refine op_call pl58 rfl rfl ((RShift3_does (n := apM c) (hl.mono Imm.leA) hsk.1)) Parts.none ?_
          rintro v59 I59 _ hI59 ⟨⟨u59, rfl, hv59⟩, rfl⟩
          obtain ⟨w1, hw1⟩ : ∃ w, w = if shE (apM c) N[k2].l = 0 then shT (apM c) N[k2].l else zeroT := ⟨_, rfl⟩
          rw [← hw1] at hv59
          obtain ⟨a59, c59, rfl, _⟩ := hv59.shape
          refine op_v (v_move rfl) rfl ?_
          refine op_v (v_extract rfl rfl) rfl ?_
          refine op_v (v_extract rfl rfl) rfl ?_
          refine o_alloc z48 rfl rfl (fun b13 => ?_)
          refine o_store ty48 rfl rfl rfl rfl rfl (by repeat (first | exact Swap.here | apply Swap.there)) rfl ?_
          refine op_v (v_assign rfl) rfl ?_
          refine ops_nil ?_
          refine post_next ?_
          refine code_seq ?_
          refine code_region ?_
          refine op_v (v_move rfl) rfl ?_
          refine op_v (v_move rfl) rfl ?_
          refine op_v (v_indexA Tryz.underlying23 sz59 rfl rfl) rfl ?_
          refine op_v (v_fieldI 3 Tryz.underlying59 rfl rfl fz48 rfl (by assumption)) rfl ?_
          refine op_v (v_loadI ty48 (hat.mono Imm.leA) rfl rfl rfl) rfl ?_
          refine op_v (v_move rfl) rfl ?_
          refine op_v (v_min rfl rfl) rfl ?_
          refine op_call pl58 rfl rfl ((RShift3_does (n := apM c) (hr.mono Imm.leA) hsk.2)) Parts.none ?_
          rintro v70 I70 _ hI70 ⟨⟨u70, rfl, hv70⟩, rfl⟩
          obtain ⟨w2, hw2⟩ : ∃ w, w = if shE (apM c) N[k2].r = 0 then shT (apM c) N[k2].r else zeroT := ⟨_, rfl⟩
          rw [← hw2] at hv70
          obtain ⟨a70, c70, rfl, _⟩ := hv70.shape
          refine op_v (v_move rfl) rfl ?_
          refine op_v (v_extract rfl rfl) rfl ?_
          refine op_v (v_extract rfl rfl) rfl ?_
          refine o_alloc z48 rfl rfl (fun b15 => ?_)
          refine o_store ty48 rfl rfl rfl rfl rfl (by repeat (first | exact Swap.here | apply Swap.there)) rfl ?_
          refine op_v (v_assign rfl) rfl ?_
          refine ops_nil ?_
          refine post_next ?_
          refine code_seq ?_
          refine code_seq ?_
          refine code_region ?_
          refine op_v (v_move rfl) rfl ?_
          by_cases h74 : 255 < byL (varsC c)
          · refine op_v (v_cmptA rfl rfl rfl) rfl ?_
            refine op_v (v_move rfl) rfl ?_
            refine op_want rfl rfl ?_
            refine op_v (v_move rfl) rfl ?_
            refine op_want rfl rfl ?_
            refine op_call pl57 rfl rfl ((RVars10_does (hr19.mono Imm.leA) (by omega))) Parts.none ?_
            rintro v77 I77 _ hI77 ⟨hv77, rfl⟩
            obtain ⟨xa, xc, rfl⟩ := hv77.shape
            refine op_want rfl rfl ?_
            refine op_v (v_len Tryz.underlying30 rfl) rfl ?_
            by_cases h79 : 0 < (uvL [] (sidesL N)).length
            · have hQ : badQ c N N[k2] := .inl ⟨h74, h79⟩
              first
                | (refine op_want rfl rfl ?_
                   refine op_v (v_cmptA rfl rfl rfl) rfl ?_)
                | (refine op_skip rfl rfl (by simp [undef]) rfl ?_)
              refine op_v (v_pickt rfl rfl) rfl ?_
              refine op_v (v_move rfl) rfl ?_
              refine op_skip rfl rfl (by simp [undef]) rfl ?_
              refine op_skip rfl rfl (by simp [undef]) rfl ?_
              refine op_v (v_pickt rfl rfl) rfl ?_
              refine op_v (v_move rfl) rfl ?_
              refine op_skip rfl rfl (by simp [undef]) rfl ?_
              refine op_skip rfl rfl (by simp [undef]) rfl ?_
              refine op_v (v_pickt rfl rfl) rfl ?_
              refine ops_nil ?_
              refine post_next ?_
              refine code_cond_t rfl ?_
              refine code_seq ?_
              refine code_region ?_
              refine op_v (v_assign rfl) rfl ?_
              refine op_v (v_assign rfl) rfl ?_
              refine ops_nil ?_
              refine post_next ?_
              refine code_ret ?_
              refine post_ret_then ?_
              refine post_ret_block ?_
              refine post_ret_then ?_
              refine post_ret_then ?_
              refine post_ret_block ?_
              refine post_ret_then ?_
              refine post_ret (rs := [.tmp 4, .tmp 5]) rfl (List.Perm.refl _) (.cons (.tmp rfl) (.cons (.tmp rfl) .nil)) (List.nil_sublist _) ?_
              exact ⟨.inl ⟨apart_bad3 hgood (x := N[k2]) (by rw [← hN]; exact List.getElem_mem hlt2) (by rw [← hN]; exact hQ), rfl⟩, rfl⟩
            · first
                | (refine op_want rfl rfl ?_
                   refine op_v (v_cmpfA rfl rfl rfl) rfl ?_)
                | (refine op_skip rfl rfl (by simp [undef]) rfl ?_)
              refine op_v (v_pickt rfl rfl) rfl ?_
              refine op_v (v_move rfl) rfl ?_
              refine op_want rfl rfl ?_
              refine op_v (v_move rfl) rfl ?_
              by_cases h83 : shE (apM c) N[k2].l ≠ 0
              · have hQ : badQ c N N[k2] := .inr (.inl h83)
                first
                  | (refine op_want rfl rfl ?_
                     refine op_v (v_cmptA rfl rfl rfl) rfl ?_)
                  | (refine op_skip rfl rfl (by simp [undef]) rfl ?_)
                refine op_v (v_pickf rfl rfl) rfl ?_
                refine op_v (v_move rfl) rfl ?_
                refine op_skip rfl rfl (by simp [undef]) rfl ?_
                refine op_skip rfl rfl (by simp [undef]) rfl ?_
                refine op_v (v_pickt rfl rfl) rfl ?_
                refine ops_nil ?_
                refine post_next ?_
                refine code_cond_t rfl ?_
                refine code_seq ?_
                refine code_region ?_
                refine op_v (v_assign rfl) rfl ?_
                refine op_v (v_assign rfl) rfl ?_
                refine ops_nil ?_
                refine post_next ?_
                refine code_ret ?_
                refine post_ret_then ?_
                refine post_ret_block ?_
                refine post_ret_then ?_
                refine post_ret_then ?_
                refine post_ret_block ?_
                refine post_ret_then ?_
                refine post_ret (rs := [.tmp 4, .tmp 5]) rfl (List.Perm.refl _) (.cons (.tmp rfl) (.cons (.tmp rfl) .nil)) (List.nil_sublist _) ?_
                exact ⟨.inl ⟨apart_bad3 hgood (x := N[k2]) (by rw [← hN]; exact List.getElem_mem hlt2) (by rw [← hN]; exact hQ), rfl⟩, rfl⟩
              · first
                  | (refine op_want rfl rfl ?_
                     refine op_v (v_cmpfA rfl rfl rfl) rfl ?_)
                  | (refine op_skip rfl rfl (by simp [undef]) rfl ?_)
                refine op_v (v_pickf rfl rfl) rfl ?_
                refine op_v (v_move rfl) rfl ?_
                refine op_want rfl rfl ?_
                refine op_v (v_move rfl) rfl ?_
                by_cases h87 : shE (apM c) N[k2].r ≠ 0
                · have hQ : badQ c N N[k2] := .inr (.inr h87)
                  first
                    | (refine op_want rfl rfl ?_
                       refine op_v (v_cmptA rfl rfl rfl) rfl ?_)
                    | (refine op_skip rfl rfl (by simp [undef]) rfl ?_)
                  refine op_v (v_pickf rfl rfl) rfl ?_
                  refine ops_nil ?_
                  refine post_next ?_
                  refine code_cond_t rfl ?_
                  refine code_seq ?_
                  refine code_region ?_
                  refine op_v (v_assign rfl) rfl ?_
                  refine op_v (v_assign rfl) rfl ?_
                  refine ops_nil ?_
                  refine post_next ?_
                  refine code_ret ?_
                  refine post_ret_then ?_
                  refine post_ret_block ?_
                  refine post_ret_then ?_
                  refine post_ret_then ?_
                  refine post_ret_block ?_
                  refine post_ret_then ?_
                  refine post_ret (rs := [.tmp 4, .tmp 5]) rfl (List.Perm.refl _) (.cons (.tmp rfl) (.cons (.tmp rfl) .nil)) (List.nil_sublist _) ?_
                  exact ⟨.inl ⟨apart_bad3 hgood (x := N[k2]) (by rw [← hN]; exact List.getElem_mem hlt2) (by rw [← hN]; exact hQ), rfl⟩, rfl⟩
                · have hQ : ¬ badQ c N N[k2] := fun h => by
                    rcases h with h | h | h
                    · omega
                    · exact h83 h
                    · exact h87 h
                  rw [if_pos (Classical.not_not.1 h83)] at hw1
                  rw [if_pos (Classical.not_not.1 h87)] at hw2
                  subst hw1
                  subst hw2
                  first
                    | (refine op_want rfl rfl ?_
                       refine op_v (v_cmpfA rfl rfl rfl) rfl ?_)
                    | (refine op_skip rfl rfl (by simp [undef]) rfl ?_)
                  refine op_v (v_pickf rfl rfl) rfl ?_
                  refine ops_nil ?_
                  refine post_next ?_
                  refine code_cond_f rfl ?_
                  refine code_skip ?_
                  refine post_next ?_
                  refine code_draw (.fl 0 (.fl 1 (.fl 2 (.fl 3 (.fl 4 (.fl 5 (.fl 6 (.fl 7 (.fl 8 (.ef 9 (.ef 10 (.ef 11 .done)))))))))))) (fun _ => [.box b15 48 [.int .i64 (shT (apM c) N[k2].r).head, .slice a70 (shT (apM c) N[k2].r).args.length c70], .box b13 48 [.int .i64 (shT (apM c) N[k2].l).head, .slice a59 (shT (apM c) N[k2].l).args.length c59]]) mixed (by kernel_rfl) (by kernel_rfl) (fun _ => (List.Sublist.cons_cons _ (List.Sublist.cons_cons _ (List.nil_sublist _)))) ?_
                  refine e_fl rfl rfl (fun hs_ => PF.mk rfl (v_move rfl) hs_) ?_
                  refine e_fl rfl rfl (fun hs_ => PF.mk rfl (v_move rfl) hs_) ?_
                  refine e_fl rfl rfl (fun hs_ => PF.mk rfl (v_move rfl) hs_) ?_
                  refine e_fl rfl rfl (fun hs_ => PF.mk rfl (v_indexA Tryz.underlying23 sz59 rfl rfl) hs_) ?_
                  refine e_fl rfl rfl (fun hs_ => PF.mk rfl (v_fieldI 0 Tryz.underlying59 rfl rfl fz4 rfl (by assumption)) hs_) ?_
                  refine e_fl rfl rfl (fun hs_ => PF.mk rfl (v_loadI0 ty4 (hat.mono Imm.leA) rfl rfl rfl) hs_) ?_
                  refine e_fl rfl rfl (fun hs_ => PF.mk rfl (v_loadA ty48 rfl rfl) hs_) ?_
                  refine e_fl rfl rfl (fun hs_ => PF.mk rfl (v_loadA ty48 rfl rfl) hs_) ?_
                  refine e_fl rfl rfl (fun hs_ => PF.mk rfl (v_build bl59 rfl rfl) hs_) ?_
                  refine e_eff rfl (by intro cs b hc; cases hc) (by intro c hc; cases hc) ?_
                  refine o_buildSlice (xs := [(Go.Operand.tmp 97)]) Tryz.underlying23 bs59 rfl rfl rfl rfl rfl (fun b98 => ?_)
                  refine ops_nil ?_
                  refine e_next rfl side_allA ?_
                  refine e_eff rfl (by intro cs b hc; cases hc) (by intro c hc; cases hc) ?_
                  refine o_append Tryz.underlying23 bs59 rfl rfl rfl (fun v' => by repeat (first | exact Swap.here | apply Swap.there)) (Src.ofRow (by repeat (first | exact Has.here | apply Has.there)) rfl) (by first | rfl | omega | simp) (by simp [cat, cellsL, Value.oneCell']) (by omega) (by omega) (fun a99 c99 => ?_)
                  refine ops_nil ?_
                  refine e_next rfl side_allA ?_
                  refine e_eff rfl (by intro cs b hc; cases hc) (by intro c hc; cases hc) ?_
                  refine op_v (v_assign rfl) rfl ?_
                  refine ops_nil ?_
                  refine e_next rfl (side_nil (by kernel_rfl)) ?_
                  refine e_done ?_
                  refine post_out ?_
                  refine post_next ?_
                  refine code_region ?_
                  refine op_v (v_move rfl) rfl ?_
                  refine op_v (v_addb rfl rfl rfl (by omega)) rfl ?_
                  refine op_v (v_assign rfl) rfl ?_
                  refine ops_nil ?_
                  refine PostJ.view ((View.drop Del.here).trans ((View.drop Del.here).trans (View.drop Del.here))) ?_
                  refine post_again (N.length - (k2 + 1)) [(6, .slice a19 d.length c19), (8, .int .i64 (byL (varsC c))), (11, .slice a99 (k2 + 1) c99), (12, .int .i64 (k2 + 1 : Nat))] (by omega) ⟨k2 + 1, a99, c99, zs ++ liC ⟨N[k2].neg, shT (apM c) N[k2].l, shT (apM c) N[k2].r⟩ a59 c59 a70 c70, rfl, hlt2, rfl, Imm.leA, rfl, by rw [List.take_succ_eq_append_getElem hlt2, List.map_append]; exact (hzs.mono Imm.leA).app (RowE.single ⟨a59, c59, a70, c70, rfl, hv59.mono Imm.leA, hv70.mono Imm.leA⟩), fun j h hj => ?_⟩ ⟨rfl, rfl, rfl, rfl, trivial⟩
                  rcases Nat.lt_or_ge j k2 with q | q
                  · exact hok j h q
                  · have e : j = k2 := by omega
                    subst e; exact hQ
          · refine op_v (v_cmpfA rfl rfl rfl) rfl ?_
            refine op_v (v_move rfl) rfl ?_
            refine op_skip rfl rfl (by simp [undef]) rfl ?_
            refine op_skip rfl rfl (by simp [undef]) rfl ?_
            refine op_skip rfl rfl (by simp [undef]) rfl ?_
            refine op_skip rfl rfl (by simp [undef]) rfl ?_
            refine op_v (v_pickf rfl rfl) rfl ?_
            refine op_v (v_move rfl) rfl ?_
            refine op_want rfl rfl ?_
            refine op_v (v_move rfl) rfl ?_
            by_cases h83 : shE (apM c) N[k2].l ≠ 0
            · have hQ : badQ c N N[k2] := .inr (.inl h83)
              first
                | (refine op_want rfl rfl ?_
                   refine op_v (v_cmptA rfl rfl rfl) rfl ?_)
                | (refine op_skip rfl rfl (by simp [undef]) rfl ?_)
              refine op_v (v_pickf rfl rfl) rfl ?_
              refine op_v (v_move rfl) rfl ?_
              refine op_skip rfl rfl (by simp [undef]) rfl ?_
              refine op_skip rfl rfl (by simp [undef]) rfl ?_
              refine op_v (v_pickt rfl rfl) rfl ?_
              refine ops_nil ?_
              refine post_next ?_
              refine code_cond_t rfl ?_
              refine code_seq ?_
              refine code_region ?_
              refine op_v (v_assign rfl) rfl ?_
              refine op_v (v_assign rfl) rfl ?_
              refine ops_nil ?_
              refine post_next ?_
              refine code_ret ?_
              refine post_ret_then ?_
              refine post_ret_block ?_
              refine post_ret_then ?_
              refine post_ret_then ?_
              refine post_ret_block ?_
              refine post_ret_then ?_
              refine post_ret (rs := [.tmp 4, .tmp 5]) rfl (List.Perm.refl _) (.cons (.tmp rfl) (.cons (.tmp rfl) .nil)) (List.nil_sublist _) ?_
              exact ⟨.inl ⟨apart_bad3 hgood (x := N[k2]) (by rw [← hN]; exact List.getElem_mem hlt2) (by rw [← hN]; exact hQ), rfl⟩, rfl⟩
            · first
                | (refine op_want rfl rfl ?_
                   refine op_v (v_cmpfA rfl rfl rfl) rfl ?_)
                | (refine op_skip rfl rfl (by simp [undef]) rfl ?_)
              refine op_v (v_pickf rfl rfl) rfl ?_
              refine op_v (v_move rfl) rfl ?_
              refine op_want rfl rfl ?_
              refine op_v (v_move rfl) rfl ?_
              by_cases h87 : shE (apM c) N[k2].r ≠ 0
              · have hQ : badQ c N N[k2] := .inr (.inr h87)
                first
                  | (refine op_want rfl rfl ?_
                     refine op_v (v_cmptA rfl rfl rfl) rfl ?_)
                  | (refine op_skip rfl rfl (by simp [undef]) rfl ?_)
                refine op_v (v_pickf rfl rfl) rfl ?_
                refine ops_nil ?_
                refine post_next ?_
                refine code_cond_t rfl ?_
                refine code_seq ?_
                refine code_region ?_
                refine op_v (v_assign rfl) rfl ?_
                refine op_v (v_assign rfl) rfl ?_
                refine ops_nil ?_
                refine post_next ?_
                refine code_ret ?_
                refine post_ret_then ?_
                refine post_ret_block ?_
                refine post_ret_then ?_
                refine post_ret_then ?_
                refine post_ret_block ?_
                refine post_ret_then ?_
                refine post_ret (rs := [.tmp 4, .tmp 5]) rfl (List.Perm.refl _) (.cons (.tmp rfl) (.cons (.tmp rfl) .nil)) (List.nil_sublist _) ?_
                exact ⟨.inl ⟨apart_bad3 hgood (x := N[k2]) (by rw [← hN]; exact List.getElem_mem hlt2) (by rw [← hN]; exact hQ), rfl⟩, rfl⟩
              · have hQ : ¬ badQ c N N[k2] := fun h => by
                  rcases h with h | h | h
                  · omega
                  · exact h83 h
                  · exact h87 h
                rw [if_pos (Classical.not_not.1 h83)] at hw1
                rw [if_pos (Classical.not_not.1 h87)] at hw2
                subst hw1
                subst hw2
                first
                  | (refine op_want rfl rfl ?_
                     refine op_v (v_cmpfA rfl rfl rfl) rfl ?_)
                  | (refine op_skip rfl rfl (by simp [undef]) rfl ?_)
                refine op_v (v_pickf rfl rfl) rfl ?_
                refine ops_nil ?_
                refine post_next ?_
                refine code_cond_f rfl ?_
                refine code_skip ?_
                refine post_next ?_
                refine code_draw (.fl 0 (.fl 1 (.fl 2 (.fl 3 (.fl 4 (.fl 5 (.fl 6 (.fl 7 (.fl 8 (.ef 9 (.ef 10 (.ef 11 .done)))))))))))) (fun _ => [.box b15 48 [.int .i64 (shT (apM c) N[k2].r).head, .slice a70 (shT (apM c) N[k2].r).args.length c70], .box b13 48 [.int .i64 (shT (apM c) N[k2].l).head, .slice a59 (shT (apM c) N[k2].l).args.length c59]]) mixed (by kernel_rfl) (by kernel_rfl) (fun _ => (List.Sublist.cons_cons _ (List.Sublist.cons_cons _ (List.nil_sublist _)))) ?_
                refine e_fl rfl rfl (fun hs_ => PF.mk rfl (v_move rfl) hs_) ?_
                refine e_fl rfl rfl (fun hs_ => PF.mk rfl (v_move rfl) hs_) ?_
                refine e_fl rfl rfl (fun hs_ => PF.mk rfl (v_move rfl) hs_) ?_
                refine e_fl rfl rfl (fun hs_ => PF.mk rfl (v_indexA Tryz.underlying23 sz59 rfl rfl) hs_) ?_
                refine e_fl rfl rfl (fun hs_ => PF.mk rfl (v_fieldI 0 Tryz.underlying59 rfl rfl fz4 rfl (by assumption)) hs_) ?_
                refine e_fl rfl rfl (fun hs_ => PF.mk rfl (v_loadI0 ty4 (hat.mono Imm.leA) rfl rfl rfl) hs_) ?_
                refine e_fl rfl rfl (fun hs_ => PF.mk rfl (v_loadA ty48 rfl rfl) hs_) ?_
                refine e_fl rfl rfl (fun hs_ => PF.mk rfl (v_loadA ty48 rfl rfl) hs_) ?_
                refine e_fl rfl rfl (fun hs_ => PF.mk rfl (v_build bl59 rfl rfl) hs_) ?_
                refine e_eff rfl (by intro cs b hc; cases hc) (by intro c hc; cases hc) ?_
                refine o_buildSlice (xs := [(Go.Operand.tmp 97)]) Tryz.underlying23 bs59 rfl rfl rfl rfl rfl (fun b98 => ?_)
                refine ops_nil ?_
                refine e_next rfl side_allA ?_
                refine e_eff rfl (by intro cs b hc; cases hc) (by intro c hc; cases hc) ?_
                refine o_append Tryz.underlying23 bs59 rfl rfl rfl (fun v' => by repeat (first | exact Swap.here | apply Swap.there)) (Src.ofRow (by repeat (first | exact Has.here | apply Has.there)) rfl) (by first | rfl | omega | simp) (by simp [cat, cellsL, Value.oneCell']) (by omega) (by omega) (fun a99 c99 => ?_)
                refine ops_nil ?_
                refine e_next rfl side_allA ?_
                refine e_eff rfl (by intro cs b hc; cases hc) (by intro c hc; cases hc) ?_
                refine op_v (v_assign rfl) rfl ?_
                refine ops_nil ?_
                refine e_next rfl (side_nil (by kernel_rfl)) ?_
                refine e_done ?_
                refine post_out ?_
                refine post_next ?_
                refine code_region ?_
                refine op_v (v_move rfl) rfl ?_
                refine op_v (v_addb rfl rfl rfl (by omega)) rfl ?_
                refine op_v (v_assign rfl) rfl ?_
                refine ops_nil ?_
                refine PostJ.view ((View.drop Del.here).trans ((View.drop Del.here).trans (View.drop Del.here))) ?_
                refine post_again (N.length - (k2 + 1)) [(6, .slice a19 d.length c19), (8, .int .i64 (byL (varsC c))), (11, .slice a99 (k2 + 1) c99), (12, .int .i64 (k2 + 1 : Nat))] (by omega) ⟨k2 + 1, a99, c99, zs ++ liC ⟨N[k2].neg, shT (apM c) N[k2].l, shT (apM c) N[k2].r⟩ a59 c59 a70 c70, rfl, hlt2, rfl, Imm.leA, rfl, by rw [List.take_succ_eq_append_getElem hlt2, List.map_append]; exact (hzs.mono Imm.leA).app (RowE.single ⟨a59, c59, a70, c70, rfl, hv59.mono Imm.leA, hv70.mono Imm.leA⟩), fun j h hj => ?_⟩ ⟨rfl, rfl, rfl, rfl, trivial⟩
                rcases Nat.lt_or_ge j k2 with q | q
                · exact hok j h q
                · have e : j = k2 := by omega
                  subst e; exact hQ
        · have hge2 : k2 = N.length := by have h := hc2; simp at h; omega
          refine code_exit ?_
          refine post_exit_then ?_
          refine post_exit_then ?_
          refine post_exit ?_
          refine post_next ?_
          refine code_seq ?_
          refine code_region ?_
          refine OpsJ.freezeRow Del.here ?_
          rintro I100 a100 c100 hI100 hq hc100 hl100 hcells100
          cases hq
          rw [hge2, List.take_length] at hzs
          obtain ⟨hE, hC⟩ := apart_fine (c := c) (d := d) hgood hgc (fun x hx => by rw [← hN] at hx ⊢; obtain ⟨j, hj, rfl⟩ := List.getElem_of_mem hx; exact hok j hj (by omega))
          rw [← hN] at hC
          rw [← hC] at hzs
          have hdl : (apartC c d).length = d.length := by rw [hC, List.length_map, hnl]
          have hkd : k2 = d.length := by omega
          subst hkd
          refine op_v (v_move rfl) rfl ?_
          refine op_v (v_assign rfl) rfl ?_
          refine op_v (v_assign rfl) rfl ?_
          refine ops_nil ?_
          refine post_next ?_
          refine code_ret ?_
          refine post_ret (rs := [.tmp 4, .tmp 5]) rfl (List.Perm.refl _) (.cons (.tmp rfl) (.cons (.tmp rfl) .nil)) (List.nil_sublist _) ?_
          exact ⟨.inr ⟨hE, A, c', rfl, ⟨A, c', zs, by rw [hdl], by omega, by omega, hcells100, hzs.mono hI100⟩⟩, rfl⟩
end Go.Proofs.YtdbadicpbmndbaaGreat
/- What a row's reading of its arguments says of the heap; plain facts, no condition. -/
set_option linter.unusedVariables false
set_option linter.unusedSimpArgs false
namespace Go.Proofs.YtdbadicpbmndbaaGreat
open Go Lg Go.ChangeShapes Go.WideShapes Go.ChangeAt Go.RowKit

/-- the whole heap, as what is only read -/
def hImm (w : World) : Imm := fun b => w.heap[b]?
theorem hSat (w : World) : Sat w (hImm w) [] := ⟨fun _ _ h => h, fun x hx => by simp at hx, by simp [blks], fun b hb => by simp [blks] at hb⟩
theorem wf_in {n : Int} (h : (Lit.int .i64 n).wf = true) : InR n := by
  simp only [Lit.wf, Bool.and_eq_true, decide_eq_true_eq] at h
  have h1 : IntKind.i64.min = -9223372036854775808 := by decide
  have h2 : IntKind.i64.max = 9223372036854775807 := by decide
  unfold InR; omega

variable {H : Type} {enc : TypeId × Value → H} {P : Program} {W : World} {spare : Nat → Bool} {held : Bool}

theorem weights_at {ts : List TypeId} {ds : List (DataW H)} (h : (DataW.weightsEach P ts ds).all (· ≤ reachBytes) = true) : ∀ (j : Nat) (t : TypeId) (d : DataW H), ts[j]? = some t → ds[j]? = some d → (d.weights P t).all (· ≤ reachBytes) = true := by
  induction ts generalizing ds with
  | nil => intro j t d ht; simp at ht
  | cons t0 ts ih =>
    cases ds with
    | nil => intro j t d _ hd; simp at hd
    | cons d0 ds =>
      simp only [DataW.weightsEach, List.all_append, Bool.and_eq_true] at h
      intro j t d ht hd
      cases j with
      | zero => simp at ht hd; subst ht; subst hd; exact h.1
      | succ j => exact ih h.2 j t d (by simpa using ht) (by simpa using hd)
theorem weights_all {e : TypeId} {ds : List (DataW H)} (h : (DataW.weightsAll P e ds).all (· ≤ reachBytes) = true) : ∀ d ∈ ds, (d.weights P e).all (· ≤ reachBytes) = true := by
  induction ds with
  | nil => intro d hd; cases hd
  | cons d0 ds ih =>
    simp only [DataW.weightsAll, List.all_append, Bool.and_eq_true] at h
    intro d hd
    rcases List.mem_cons.1 hd with rfl | hd
    · exact h.1
    · exact ih h.2 d hd

theorem openI {t e : TypeId} {a : Option Addr} {len cap : Nat} {d : DataW H} {ps : List MemPlace} (ht : P.underlying t = some (.slice e)) (he : P.underlying e = some (.int .i64)) (hc : P.cellsOf e = 1) (hB : P.bytesOf e = 8)
    (h : DataW.Trod enc P W 0 spare held t (.slice a len cap) d ps) (hw : (d.weights P t).all (· ≤ reachBytes) = true) : ∃ xs, RInts (hImm W) (.slice a len cap) xs := by
  obtain ⟨fuel, hf⟩ := h
  rcases open_ints ht he hc hf with ⟨hcs, _⟩ | ⟨x, l, c, zs, hcs, _, hl, hm, hz, hx, hcell, hwz⟩
  · simp [Value.cells] at hcs
    obtain ⟨rfl, rfl, rfl⟩ := hcs
    exact ⟨[], RInts.nil _⟩
  · simp [Value.cells] at hcs
    obtain ⟨rfl, rfl, rfl⟩ := hcs
    obtain ⟨hx, _⟩ := Prod.mk.inj hx
    subst hx
    have hzl : len ≤ zs.length := by rw [hz]; split <;> omega
    have hlen : (zs.take len).length = len := by rw [List.length_take]; omega
    simp only [DataW.weights, ht, hB, List.all_cons, Bool.and_eq_true, decide_eq_true_eq] at hw
    have hb : len * 8 ≤ reachBytes := by
      refine Nat.le_trans ?_ hw.1
      simp [lits]; omega
    have hrb : reachBytes = 140737488351232 := rfl
    refine ⟨zs.take len, RInts.of hlen.symm hl (by omega) (fun j v hj => ?_) (fun y hy => wf_in (hwz y (List.mem_of_mem_take hy)))⟩
    have hjl : j < len := by have := (List.getElem?_eq_some_iff.1 hj).1; simp at this; omega
    have hc := hcell j (by omega)
    rw [List.map_take, List.getElem?_take_of_lt hjl] at hj
    have e : v = .int .i64 (zs.getD j 0) := by
      have hjz : j < zs.length := by omega
      simp [hjz] at hj
      simp [hjz, hj]
    subst e
    exact hc

theorem pick_list {α : Type} {n : Nat} {p : Nat → α → Prop} (h : ∀ i, i < n → ∃ a, p i a) : ∃ l : List α, l.length = n ∧ ∀ i (hi : i < l.length), p i l[i] := by
  induction n with
  | zero => exact ⟨[], rfl, fun i hi => by simp at hi⟩
  | succ n ih =>
    obtain ⟨l, h1, h2⟩ := ih fun i hi => h i (by omega)
    obtain ⟨a, ha⟩ := h n (by omega)
    refine ⟨l ++ [a], by simp [h1], fun i hi => ?_⟩
    by_cases hlt : i < l.length
    · rw [List.getElem_append_left hlt]; exact h2 i hlt
    · have e : i = l.length := by simp at hi; omega
      subst e
      simp [h1, ha]

theorem cells_two {a : Addr} {cs : List Value} (h : W.cells? 0 a 2 = some cs) : ∃ u v, cs = [u, v] ∧ W.cell? a = some u ∧ W.cell? (a.add 1) = some v := by
  simp only [World.cells?, Nat.zero_le, if_true] at h
  have hr : List.range 2 = [0, 1] := rfl
  rw [hr] at h
  simp only [List.mapM_cons, List.mapM_nil, Option.bind_eq_bind, Option.bind_eq_some_iff, Option.pure_def, Option.some.injEq] at h
  obtain ⟨u, hu, r, ⟨v, hv, r2, rfl, rfl⟩, rfl⟩ := h
  have ha : a.add 0 = a := by simp [Addr.add]
  rw [ha] at hu
  exact ⟨u, v, rfl, hu, hv⟩

/-- a struct of a number and a row of its own kind -/
structure TreeTy (P : Program) (tT tS tI : TypeId) : Prop where
  str : ∃ fs : Array Field, P.underlying tT = some (.struct fs) ∧ fs.size = 2 ∧ (∃ f0 f1 : Field, fs[0]? = some f0 ∧ fs[1]? = some f1 ∧ f0.type = tI ∧ f0.offset = 0 ∧ f1.type = tS ∧ f1.offset = 1 ∧ fs.toList.map (·.type) = [tI, tS])
  sl : P.underlying tS = some (.slice tT)
  int : P.underlying tI = some (.int .i64)
  cT : P.cellsOf tT = 2
  cS : P.cellsOf tS = 1
  cI : P.cellsOf tI = 1
  bT : P.bytesOf tT = 32

theorem openT {tT tS tI : TypeId} (ty : TreeTy P tT tS tI) : ∀ (fuel : Nat) (cs : List Value) (d : DataW H) (ps : List MemPlace), DataW.trod enc P W 0 spare held fuel tT cs = some (d, ps) → (d.weights P tT).all (· ≤ reachBytes) = true →
    ∃ (s : Value) (t : T), cs = [.int .i64 t.head, s] ∧ RepT (hImm W) (.agg #[.int .i64 t.head, s]) t := by
  intro fuel
  induction fuel using Nat.strongRecOn with
  | _ fuel ih =>
    intro cs d ps h hw
    obtain ⟨fs, hfs, hsz, f0, f1, hf0, hf1, ht0, ho0, ht1, ho1, hts⟩ := ty.str
    obtain ⟨xs, n, rfl, hx, hcl, hxl, hxs⟩ := DataW.trod_struct hfs h
    rw [ty.cT] at hcl
    obtain ⟨u, v, rfl⟩ : ∃ u v, cs = [u, v] := by
      rcases cs with _ | ⟨u, _ | ⟨v, _ | ⟨_, _⟩⟩⟩
      · simp at hcl
      · simp at hcl
      · exact ⟨u, v, rfl⟩
      · simp at hcl
    have h0 := hxs 0 f0 hf0
    have h1 := hxs 1 f1 hf1
    rw [ht0, ho0, ty.cI] at h0
    rw [ht1, ho1, ty.cS] at h1
    simp only [List.drop_zero, List.drop_succ_cons, List.take_succ_cons, List.take_zero] at h0 h1
    rw [hsz] at hxl
    obtain ⟨x0, x1, rfl⟩ : ∃ x0 x1, xs = [x0, x1] := by
      rcases xs with _ | ⟨u, _ | ⟨v, _ | ⟨_, _⟩⟩⟩
      · simp at hxl
      · simp at hxl
      · exact ⟨u, v, rfl⟩
      · simp at hxl
    simp only [List.getElem?_cons_zero, List.getElem?_cons_succ] at h0 h1
    obtain ⟨m, hm, _, hwf⟩ := DataW.trod_int ty.int h0
    simp only [List.cons.injEq, and_true] at hm
    subst hm
    simp only [Prod.mk.injEq] at hx
    obtain ⟨rfl, _⟩ := hx
    simp only [DataW.weights, hfs, hts, List.map_cons, List.map_nil, DataW.weightsEach, List.all_append, Bool.and_eq_true] at hw
    have hw1 := hw.2.1
    rcases DataW.trod_slice ty.sl h1 with ⟨hcs, _⟩ | ⟨a, len, cap, elems, rest, n', rfl, hcs, rfl, _, hl, hm, hlen, hel, hsp, _⟩
    · simp only [List.cons.injEq, and_true] at hcs
      subst hcs
      exact ⟨_, .mk m [], rfl, RepT.mk _ (.mk m []) (wf_in hwf) (RepS.nil _)⟩
    · simp only [List.cons.injEq, and_true] at hcs
      subst hcs
      simp only [DataW.weights, ty.sl, ty.bT, List.all_cons, List.all_append, Bool.and_eq_true, decide_eq_true_eq] at hw1
      obtain ⟨hwl, hwe, _⟩ := hw1
      have hwe' := weights_all hwe
      have hrb : reachBytes = 140737488351232 := rfl
      simp only [List.length_map, hlen] at hwl
      have hall : ∀ i, i < len → ∃ t : T, ∃ s : Option Addr × Nat, At (hImm W) (some a) (i * 2) [.int .i64 t.head, .slice s.1 t.args.length s.2] ∧ RepT (hImm W) (.agg #[.int .i64 t.head, .slice s.1 t.args.length s.2]) t := by
        intro i hi
        have hy := hel i hi
        rw [ty.cT] at hy
        have hie : elems[i]? = some elems[i] := List.getElem?_eq_getElem (by omega)
        rw [hie, Option.bind_eq_some_iff] at hy
        obtain ⟨cs, hcs, htr⟩ := hy
        obtain ⟨u, v, rfl, hu, hv⟩ := cells_two hcs
        obtain ⟨s, t, he, hr⟩ := ih n' (by omega) _ elems[i].1 elems[i].2 htr (hwe' _ (List.mem_map.2 ⟨_, List.getElem_mem (by omega), rfl⟩))
        obtain ⟨sa, sc, hsh, _⟩ := hr.shape
        have hs : s = .slice sa t.args.length sc := by simpa using hsh
        subst hs
        simp only [List.cons.injEq, and_true] at he
        obtain ⟨rfl, rfl⟩ := he
        refine ⟨t, (sa, sc), fun j x hj => ?_, hr⟩
        rcases j with _ | _ | j
        · simp at hj; subst hj; exact hu
        · simp at hj; subst hj
          show W.cell? (a.add (i * 2 + 1)) = _
          rw [← add_add]; exact hv
        · simp at hj
      obtain ⟨ts, htl, hts2⟩ := pick_list hall
      have hss : ∃ ss : Nat → Option Addr × Nat, ∀ i (hi : i < ts.length), At (hImm W) (some a) (i * 2) [.int .i64 ts[i].head, .slice (ss i).1 ts[i].args.length (ss i).2] ∧ RepT (hImm W) (.agg #[.int .i64 ts[i].head, .slice (ss i).1 ts[i].args.length (ss i).2]) ts[i] := by
        classical
        exact ⟨fun i => if hi : i < ts.length then (hts2 i hi).choose else (none, 0), fun i hi => by simp only [dif_pos hi]; exact (hts2 i hi).choose_spec⟩
      obtain ⟨ss, hss⟩ := hss
      subst htl
      exact ⟨_, .mk m ts, rfl, RepT.intro ss (wf_in hwf) hl (by omega) (fun i hi => (hss i hi).1) (fun i hi => (hss i hi).2)⟩

theorem openTv {tT tS tI : TypeId} (ty : TreeTy P tT tS tI) {v : Value} {d : DataW H} {ps : List MemPlace} (h : DataW.Trod enc P W 0 spare held tT v d ps) (hw : (d.weights P tT).all (· ≤ reachBytes) = true) (hv : ∃ cs, v = .agg cs ∧ cs.size = P.cellsOf tT) : ∃ t, RepT (hImm W) v t := by
  obtain ⟨fuel, hf⟩ := h
  obtain ⟨s, t, hc, hr⟩ := openT ty fuel _ d ps hf hw
  obtain ⟨cs, rfl, _⟩ := hv
  have e : cs = #[.int .i64 t.head, s] := by
    apply Array.ext'
    simpa [Value.cells] using hc
  subst e
  exact ⟨t, hr⟩
theorem tr_below {w w' : World} {I I' : Imm} {δ' : List Ent} (h : Tr w I [] w' I' δ') : Below w.heap.size w w' := ⟨h.os, h.tape, h.output, h.size, fun k hk => h.same k hk (by simp [blks])⟩
end Go.Proofs.YtdbadicpbmndbaaGreat
/- What a row's reading of a signature, and of a name, says of the heap; plain facts, no condition. -/
set_option linter.unusedVariables false
set_option linter.unusedSimpArgs false
namespace Go.Proofs.YtdbadicpbmndbaaGreat
open Go Lg Go.ChangeShapes Go.WideShapes Go.ChangeAt Go.RowKit
variable {H : Type} {enc : TypeId × Value → H} {P : Program} {W : World} {spare : Nat → Bool} {held : Bool}
theorem cells_all {a : Addr} {n : Nat} {cs : List Value} (h : W.cells? 0 a n = some cs) : cs.length = n ∧ ∀ j v, cs[j]? = some v → W.cell? (a.add j) = some v := by
  simp only [World.cells?, Nat.zero_le, if_true] at h
  have key : ∀ (l : List Nat) (cs : List Value), l.mapM (fun i => W.cell? (a.add i)) = some cs → cs.length = l.length ∧ ∀ (j : Nat) (v : Value), cs[j]? = some v → ∃ i : Nat, l[j]? = some i ∧ W.cell? (a.add i) = some v := by
    intro l
    induction l with
    | nil => intro cs h; simp at h; subst h; exact ⟨rfl, fun j v h => by simp at h⟩
    | cons i l ih =>
      intro cs h
      simp only [List.mapM_cons, Option.bind_eq_bind, Option.bind_eq_some_iff, Option.pure_def, Option.some.injEq] at h
      obtain ⟨u, hu, r, hr, rfl⟩ := h
      obtain ⟨h1, h2⟩ := ih r hr
      refine ⟨by simp [h1], fun j v hj => ?_⟩
      cases j with
      | zero => simp at hj; subst hj; exact ⟨i, rfl, hu⟩
      | succ j => simpa using h2 j v (by simpa using hj)
  obtain ⟨h1, h2⟩ := key _ _ h
  refine ⟨by simpa using h1, fun j v hj => ?_⟩
  obtain ⟨i, hi, hc⟩ := h2 j v hj
  have hlt : j < n := by have := (List.getElem?_eq_some_iff.1 hi).1; simpa using this
  rw [List.getElem?_range hlt] at hi
  cases hi
  exact hc

structure SyLay (P : Program) (tS tG ts ti tb : TypeId) : Prop where
  ty : SyTy P tG ts ti tb
  sl : P.underlying tS = some (.slice tG)
  cG : P.cellsOf tG = 4
  cs : P.cellsOf ts = 1
  ci : P.cellsOf ti = 1
  cb : P.cellsOf tb = 1
  bG : P.bytesOf tG = 40
theorem openSy {tS tG ts ti tb : TypeId} (ly : SyLay P tS tG ts ti tb) {fuel : Nat} {cs : List Value} {x : DataW H × List MemPlace} (h : DataW.trod enc P W 0 spare held fuel tG cs = some x) : ∃ s : Sy, cs = s.cs ∧ s.ok := by
  obtain ⟨f0, f1, f2, f3, hs, ⟨e1, e2, e3⟩, ⟨g1, g2, g3⟩, ⟨h1, h2, h3⟩, k1, k2, k3⟩ := ly.ty.str
  obtain ⟨xs, n, rfl, hx, hcl, hxl, hxs⟩ := DataW.trod_struct hs h
  rw [ly.cG] at hcl
  obtain ⟨a, b, c, d, rfl⟩ : ∃ a b c d, cs = [a, b, c, d] := by
    rcases cs with _ | ⟨a, _ | ⟨b, _ | ⟨c, _ | ⟨d, _ | ⟨_, _⟩⟩⟩⟩⟩ <;> simp at hcl
    exact ⟨a, b, c, d, rfl⟩
  have q0 := hxs 0 f0 rfl
  have q1 := hxs 1 f1 rfl
  have q2 := hxs 2 f2 rfl
  have q3 := hxs 3 f3 rfl
  have hx4 : xs.length = 4 := hxl
  rw [List.getElem?_eq_getElem (by omega), e1, e2, ly.cs] at q0
  rw [List.getElem?_eq_getElem (by omega), g1, g2, ly.ci] at q1
  rw [List.getElem?_eq_getElem (by omega), h1, h2, ly.ci] at q2
  rw [List.getElem?_eq_getElem (by omega), k1, k2, ly.cb] at q3
  obtain ⟨s0, z0, _, w0⟩ := DataW.trod_string ly.ty.us q0
  obtain ⟨s1, z1, _, w1⟩ := DataW.trod_int ly.ty.ui q1
  obtain ⟨s2, z2, _, w2⟩ := DataW.trod_int ly.ty.ui q2
  obtain ⟨s3, z3, _⟩ := DataW.trod_bool ly.ty.ub q3
  simp at z0 z1 z2 z3
  subst z0; subst z1; subst z2; subst z3
  exact ⟨⟨s0, s1, s2, s3⟩, rfl, wf_in w1, wf_in w2, w0⟩
theorem openGv {tS tG ts ti tb : TypeId} (ly : SyLay P tS tG ts ti tb) {v : Value} {d : DataW H} {ps : List MemPlace} (h : DataW.Trod enc P W 0 spare held tS v d ps) (hw : (d.weights P tS).all (· ≤ reachBytes) = true) (hv : ∃ a len cap, v = .slice a len cap) : ∃ gs, RepG (hImm W) v gs := by
  obtain ⟨a0, len0, cap0, rfl⟩ := hv
  obtain ⟨fuel, h1⟩ := h
  rcases DataW.trod_slice ly.sl h1 with ⟨hcs, _⟩ | ⟨a, len, cap, elems, rest, n', rfl, hcs, hd, _, hl, hm, hlen, hel, hsp, _⟩
  · simp [Value.cells] at hcs
    obtain ⟨rfl, rfl, rfl⟩ := hcs
    exact ⟨[], none, 0, [], Nat.le_refl _, by simp, fun i hi => by simp at hi, fun s hs => by cases hs⟩
  · simp [Value.cells] at hcs
    obtain ⟨rfl, rfl, rfl⟩ := hcs
    obtain ⟨rfl, _⟩ := Prod.mk.inj hd
    simp only [DataW.weights, ly.sl, ly.bG, List.all_cons, List.all_append, Bool.and_eq_true, decide_eq_true_eq] at hw
    obtain ⟨hwl, hwe, _⟩ := hw
    have hrb : reachBytes = 140737488351232 := rfl
    simp only [List.length_map, hlen] at hwl
    have hall : ∀ i, i < len0 → ∃ s : Sy, At (hImm W) (some a) (i * 4) s.cs ∧ s.ok := by
      intro i hi
      have hy := hel i hi
      rw [ly.cG] at hy
      have hie : elems[i]? = some elems[i] := List.getElem?_eq_getElem (by omega)
      rw [hie, Option.bind_eq_some_iff] at hy
      obtain ⟨cs, hcs, htr⟩ := hy
      obtain ⟨_, hca⟩ := cells_all hcs
      obtain ⟨s, rfl, hok⟩ := openSy ly htr
      refine ⟨s, fun j v hj => ?_, hok⟩
      have := hca j v hj
      rw [add_add] at this
      exact this
    obtain ⟨gs, hgl, hg2⟩ := pick_list hall
    subst hgl
    exact ⟨gs, some a, cap0, gs, hl, by omega, fun i hi => (hg2 i hi).1, fun s hs => by obtain ⟨i, hi, rfl⟩ := List.getElem_of_mem hs; exact (hg2 i hi).2⟩
end Go.Proofs.YtdbadicpbmndbaaGreat
/- What a row's reading of a substitution says of the heap; plain facts, no condition. -/
set_option linter.unusedVariables false
set_option linter.unusedSimpArgs false
namespace Go.Proofs.YtdbadicpbmndbaaGreat
open Go Lg Go.ChangeShapes Go.WideShapes Go.ChangeAt Go.RowKit
variable {H : Type} {enc : TypeId × Value → H} {P : Program} {W : World} {spare : Nat → Bool} {held : Bool}
structure BiLay (P : Program) (tS tB tT tTs tI : TypeId) : Prop where
  tree : TreeTy P tT tTs tI
  str : ∃ f0 f1 : Field, P.underlying tB = some (.struct #[f0, f1]) ∧ f0.type = tI ∧ f0.offset = 0 ∧ f1.type = tT ∧ f1.offset = 1
  sl : P.underlying tS = some (.slice tB)
  cB : P.cellsOf tB = 3
  bB : P.bytesOf tB = 40
theorem openBi {tS tB tT tTs tI : TypeId} (ly : BiLay P tS tB tT tTs tI) {fuel : Nat} {cs : List Value} {x : DataW H × List MemPlace} (h : DataW.trod enc P W 0 spare held fuel tB cs = some x) (hw : (x.1.weights P tB).all (· ≤ reachBytes) = true) :
    ∃ (n : Int) (t : T) (s : Option Addr × Nat), cs = [.int .i64 n, .int .i64 t.head, .slice s.1 t.args.length s.2] ∧ InR n ∧ RepT (hImm W) (.agg #[.int .i64 t.head, .slice s.1 t.args.length s.2]) t := by
  obtain ⟨f0, f1, hs, e1, e2, g1, g2⟩ := ly.str
  obtain ⟨xs, n, rfl, hx, hcl, hxl, hxs⟩ := DataW.trod_struct hs h
  rw [ly.cB] at hcl
  obtain ⟨a, b, c, rfl⟩ : ∃ a b c, cs = [a, b, c] := by
    rcases cs with _ | ⟨a, _ | ⟨b, _ | ⟨c, _ | ⟨_, _⟩⟩⟩⟩ <;> simp at hcl
    exact ⟨a, b, c, rfl⟩
  have q0 := hxs 0 f0 rfl
  have q1 := hxs 1 f1 rfl
  have hx2 : xs.length = 2 := hxl
  obtain ⟨x0, x1, rfl⟩ : ∃ x0 x1, xs = [x0, x1] := by
    rcases xs with _ | ⟨u, _ | ⟨v, _ | ⟨_, _⟩⟩⟩ <;> simp at hx2
    exact ⟨u, v, rfl⟩
  rw [e1, e2, ly.tree.cI] at q0
  rw [g1, g2, ly.tree.cT] at q1
  simp only [List.drop_zero, List.drop_succ_cons, List.take_succ_cons, List.take_zero, List.getElem?_cons_zero, List.getElem?_cons_succ] at q0 q1
  subst hx
  have hts : (#[f0, f1] : Array Field).toList.map (·.type) = [tI, tT] := by simp [e1, g1]
  simp only [DataW.weights, hs, hts, List.map_cons, List.map_nil, DataW.weightsEach, List.all_append, Bool.and_eq_true] at hw
  obtain ⟨m, hm, _, hwf⟩ := DataW.trod_int ly.tree.int q0
  obtain ⟨s, t, hc, hr⟩ := openT ly.tree n _ x1.1 x1.2 q1 hw.2.1
  obtain ⟨sa, sc, hsh, _⟩ := hr.shape
  have hse : s = .slice sa t.args.length sc := by simpa using hsh
  subst hse
  simp only [List.cons.injEq, and_true] at hm hc
  obtain ⟨rfl, rfl⟩ := hc
  subst hm
  exact ⟨m, t, (sa, sc), rfl, wf_in hwf, hr⟩
theorem openBv {tS tB tT tTs tI : TypeId} (ly : BiLay P tS tB tT tTs tI) {v : Value} {d : DataW H} {ps : List MemPlace} (h : DataW.Trod enc P W 0 spare held tS v d ps) (hw : (d.weights P tS).all (· ≤ reachBytes) = true) (hv : ∃ a len cap, v = .slice a len cap) : ∃ bs, RepB (hImm W) v bs := by
  obtain ⟨a0, len0, cap0, rfl⟩ := hv
  obtain ⟨fuel, h1⟩ := h
  rcases DataW.trod_slice ly.sl h1 with ⟨hcs, _⟩ | ⟨a, len, cap, elems, rest, n', rfl, hcs, hd, _, hl, hm, hlen, hel, hsp, _⟩
  · simp [Value.cells] at hcs
    obtain ⟨rfl, rfl, rfl⟩ := hcs
    exact ⟨[], none, 0, fun _ => (none, 0), [], Nat.le_refl _, by simp, fun i hi => by simp at hi, fun i hi => by simp at hi, fun i hi => by simp at hi⟩
  · simp [Value.cells] at hcs
    obtain ⟨rfl, rfl, rfl⟩ := hcs
    obtain ⟨rfl, _⟩ := Prod.mk.inj hd
    simp only [DataW.weights, ly.sl, ly.bB, List.all_cons, List.all_append, Bool.and_eq_true, decide_eq_true_eq] at hw
    obtain ⟨hwl, hwe, _⟩ := hw
    have hwe' := weights_all hwe
    have hrb : reachBytes = 140737488351232 := rfl
    simp only [List.length_map, hlen] at hwl
    have hall : ∀ i, i < len0 → ∃ b : Bi × (Option Addr × Nat), At (hImm W) (some a) (i * 3) [.int .i64 b.1.1, .int .i64 b.1.2.head, .slice b.2.1 b.1.2.args.length b.2.2] ∧ InR b.1.1 ∧ RepT (hImm W) (.agg #[.int .i64 b.1.2.head, .slice b.2.1 b.1.2.args.length b.2.2]) b.1.2 := by
      intro i hi
      have hy := hel i hi
      rw [ly.cB] at hy
      have hie : elems[i]? = some elems[i] := List.getElem?_eq_getElem (by omega)
      rw [hie, Option.bind_eq_some_iff] at hy
      obtain ⟨cs, hcs, htr⟩ := hy
      obtain ⟨_, hca⟩ := cells_all hcs
      obtain ⟨n, t, s, rfl, hn, hr⟩ := openBi ly htr (hwe' _ (List.mem_map.2 ⟨_, List.getElem_mem (by omega), rfl⟩))
      refine ⟨((n, t), s), fun j v hj => ?_, hn, hr⟩
      have := hca j v hj
      rw [add_add] at this
      exact this
    obtain ⟨bl, hbl, hb2⟩ := pick_list hall
    subst hbl
    have key := RepB.mk (I := hImm W) (some a) cap0 (fun i => (bl.getD i ((0, zeroT), (none, 0))).2) (bl.map (·.1)) (by simpa using hl) (by simp; omega) (fun i hi => by
      have hi' : i < bl.length := by simpa using hi
      have := (hb2 i hi').1
      simpa [List.getElem?_eq_getElem hi'] using this) (fun i hi => by
      have hi' : i < bl.length := by simpa using hi
      simpa using (hb2 i hi').2.1) (fun i hi => by
      have hi' : i < bl.length := by simpa using hi
      have := (hb2 i hi').2.2
      simpa [List.getElem?_eq_getElem hi'] using this)
    rw [List.length_map] at key
    exact ⟨_, key⟩
end Go.Proofs.YtdbadicpbmndbaaGreat
/- What a row's reading of a literal says of the heap; plain facts, no condition. -/
set_option linter.unusedVariables false
set_option linter.unusedSimpArgs false
namespace Go.Proofs.YtdbadicpbmndbaaGreat
open Go Lg Go.ChangeShapes Go.WideShapes Go.ChangeAt Go.RowKit
variable {H : Type} {enc : TypeId × Value → H} {P : Program} {W : World} {spare : Nat → Bool} {held : Bool}
structure LiLay (P : Program) (tL tT tTs tI tb : TypeId) : Prop where
  tree : TreeTy P tT tTs tI
  str : ∃ f0 f1 f2 : Field, P.underlying tL = some (.struct #[f0, f1, f2]) ∧ (f0.type = tb ∧ f0.offset = 0) ∧ (f1.type = tT ∧ f1.offset = 1) ∧ f2.type = tT ∧ f2.offset = 3
  ub : P.underlying tb = some .bool
  cL : P.cellsOf tL = 5
  cb : P.cellsOf tb = 1
theorem openLi {tL tT tTs tI tb : TypeId} (ly : LiLay P tL tT tTs tI tb) {fuel : Nat} {cs : List Value} {x : DataW H × List MemPlace} (h : DataW.trod enc P W 0 spare held fuel tL cs = some x) (hw : (x.1.weights P tL).all (· ≤ reachBytes) = true) :
    ∃ (y : Li) (la ra : Option Addr) (lc rc : Nat), cs = [.bool y.neg, .int .i64 y.l.head, .slice la y.l.args.length lc, .int .i64 y.r.head, .slice ra y.r.args.length rc] ∧ RepT (hImm W) (.agg #[.int .i64 y.l.head, .slice la y.l.args.length lc]) y.l ∧ RepT (hImm W) (.agg #[.int .i64 y.r.head, .slice ra y.r.args.length rc]) y.r := by
  obtain ⟨f0, f1, f2, hs, ⟨e1, e2⟩, ⟨g1, g2⟩, k1, k2⟩ := ly.str
  obtain ⟨xs, n, rfl, hx, hcl, hxl, hxs⟩ := DataW.trod_struct hs h
  rw [ly.cL] at hcl
  obtain ⟨a, b, c, d, e, rfl⟩ : ∃ a b c d e, cs = [a, b, c, d, e] := by
    rcases cs with _ | ⟨a, _ | ⟨b, _ | ⟨c, _ | ⟨d, _ | ⟨e, _ | ⟨_, _⟩⟩⟩⟩⟩⟩ <;> simp at hcl
    exact ⟨a, b, c, d, e, rfl⟩
  have q0 := hxs 0 f0 rfl
  have q1 := hxs 1 f1 rfl
  have q2 := hxs 2 f2 rfl
  have hx3 : xs.length = 3 := hxl
  obtain ⟨x0, x1, x2, rfl⟩ : ∃ x0 x1 x2, xs = [x0, x1, x2] := by
    rcases xs with _ | ⟨u, _ | ⟨v, _ | ⟨w, _ | ⟨_, _⟩⟩⟩⟩ <;> simp at hx3
    exact ⟨u, v, w, rfl⟩
  rw [e1, e2, ly.cb] at q0
  rw [g1, g2, ly.tree.cT] at q1
  rw [k1, k2, ly.tree.cT] at q2
  simp only [List.drop_zero, List.drop_succ_cons, List.take_succ_cons, List.take_zero, List.getElem?_cons_zero, List.getElem?_cons_succ] at q0 q1 q2
  subst hx
  have hts : (#[f0, f1, f2] : Array Field).toList.map (·.type) = [tb, tT, tT] := by simp [e1, g1, k1]
  simp only [DataW.weights, hs, hts, List.map_cons, List.map_nil, DataW.weightsEach, List.all_append, Bool.and_eq_true] at hw
  obtain ⟨m, hm, _⟩ := DataW.trod_bool ly.ub q0
  obtain ⟨s, t, hc, hr⟩ := openT ly.tree n _ x1.1 x1.2 q1 hw.2.1
  obtain ⟨s', t', hc', hr'⟩ := openT ly.tree n _ x2.1 x2.2 q2 hw.2.2.1
  obtain ⟨sa, sc, hsh, _⟩ := hr.shape
  obtain ⟨sa', sc', hsh', _⟩ := hr'.shape
  have hse : s = .slice sa t.args.length sc := by simpa using hsh
  have hse' : s' = .slice sa' t'.args.length sc' := by simpa using hsh'
  subst hse; subst hse'
  simp only [List.cons.injEq, and_true] at hm hc hc'
  obtain ⟨rfl, rfl⟩ := hc
  obtain ⟨rfl, rfl⟩ := hc'
  subst hm
  exact ⟨⟨m, t, t'⟩, sa, sa', sc, sc', rfl, hr, hr'⟩
theorem openLv {tL tT tTs tI tb : TypeId} (ly : LiLay P tL tT tTs tI tb) {v : Value} {d : DataW H} {ps : List MemPlace} (h : DataW.Trod enc P W 0 spare held tL v d ps) (hw : (d.weights P tL).all (· ≤ reachBytes) = true) (hv : ∃ cs, v = .agg cs) : ∃ x, RepL (hImm W) v x := by
  obtain ⟨cs, rfl⟩ := hv
  obtain ⟨fuel, h1⟩ := h
  obtain ⟨y, la, ra, lc, rc, hc, hl, hr⟩ := openLi ly h1 hw
  refine ⟨y, la, lc, ra, rc, ?_, hl, hr⟩
  have : cs.toList = [.bool y.neg, .int .i64 y.l.head, .slice la y.l.args.length lc, .int .i64 y.r.head, .slice ra y.r.args.length rc] := by simpa [Value.cells] using hc
  cases cs; simp at this; subst this; rfl
end Go.Proofs.YtdbadicpbmndbaaGreat
/- What a row's reading of a clause, and of a script of stores, says of the heap; plain facts, no condition. -/
set_option linter.unusedVariables false
set_option linter.unusedSimpArgs false
namespace Go.Proofs.YtdbadicpbmndbaaGreat
open Go Lg Go.ChangeShapes Go.WideShapes Go.ChangeAt Go.RowKit
variable {H : Type} {enc : TypeId × Value → H} {P : Program} {W : World} {spare : Nat → Bool} {held : Bool}
theorem cells_allC {a : Addr} {n : Nat} {cs : List Value} (h : W.cells? 0 a n = some cs) : cs.length = n ∧ ∀ j v, cs[j]? = some v → W.cell? (a.add j) = some v := by
  simp only [World.cells?, Nat.zero_le, if_true] at h
  have key : ∀ (l : List Nat) (cs : List Value), l.mapM (fun i => W.cell? (a.add i)) = some cs → cs.length = l.length ∧ ∀ (j : Nat) (v : Value), cs[j]? = some v → ∃ i : Nat, l[j]? = some i ∧ W.cell? (a.add i) = some v := by
    intro l
    induction l with
    | nil => intro cs h; simp at h; subst h; exact ⟨rfl, fun j v h => by simp at h⟩
    | cons i l ih =>
      intro cs h
      simp only [List.mapM_cons, Option.bind_eq_bind, Option.bind_eq_some_iff, Option.pure_def, Option.some.injEq] at h
      obtain ⟨u, hu, r, hr, rfl⟩ := h
      obtain ⟨h1, h2⟩ := ih r hr
      refine ⟨by simp [h1], fun j v hj => ?_⟩
      cases j with
      | zero => simp at hj; subst hj; exact ⟨i, rfl, hu⟩
      | succ j => simpa using h2 j v (by simpa using hj)
  obtain ⟨h1, h2⟩ := key _ _ h
  refine ⟨by simpa using h1, fun j v hj => ?_⟩
  obtain ⟨i, hi, hc⟩ := h2 j v hj
  have hlt : j < n := by have := (List.getElem?_eq_some_iff.1 hi).1; simpa using this
  rw [List.getElem?_range hlt] at hi
  cases hi
  exact hc
theorem rowE_of {n : Nat} {α : Type} {E : Elt n α} {I : Imm} {ad : Option Addr} : ∀ (al : List α) (vss : List (List Value)), vss.length = al.length → (∀ i (h : i < al.length) (h' : i < vss.length), E.R I al[i] vss[i] ∧ At I ad (i * n) vss[i]) → RowE E I vss.flatten al ∧ ∀ m, (∀ i (h' : i < vss.length), At I ad (m * n + i * n) vss[i]) → ∀ j v, vss.flatten[j]? = some v → I.cellO (ad.map (·.add (m * n + j))) = some v
  | [], vss, hl, h => by
    have : vss = [] := List.eq_nil_of_length_eq_zero hl
    subst this
    exact ⟨rfl, fun m _ j v hj => by simp at hj⟩
  | a :: al, [], hl, h => by simp at hl
  | a :: al, vs :: vss, hl, h => by
    have hl' : vss.length = al.length := by simpa using hl
    have h0 := h 0 (by simp) (by simp)
    have hn : vs.length = n := E.len h0.1
    refine ⟨⟨vs, vss.flatten, rfl, h0.1, ?_⟩, ?_⟩
    · have key : ∀ (al : List α) (vss : List (List Value)), vss.length = al.length → (∀ i (h : i < al.length) (h' : i < vss.length), E.R I al[i] vss[i]) → RowE E I vss.flatten al := by
        intro al
        induction al with
        | nil => intro vss hl _; have : vss = [] := List.eq_nil_of_length_eq_zero hl; subst this; rfl
        | cons a al ih =>
          intro vss hl h
          rcases vss with _ | ⟨vs, vss⟩
          · simp at hl
          · exact ⟨vs, vss.flatten, rfl, h 0 (by simp) (by simp), ih vss (by simpa using hl) fun i h1 h2 => h (i + 1) (by simpa using h1) (by simpa using h2)⟩
      exact key al vss hl' fun i h1 h2 => (h (i + 1) (by simpa using h1) (by simpa using h2)).1
    · intro m hm j v hj
      have key : ∀ (vss : List (List Value)) (m : Nat), (∀ vs ∈ vss, vs.length = n) → (∀ i (h' : i < vss.length), At I ad (m * n + i * n) vss[i]) → ∀ j v, vss.flatten[j]? = some v → I.cellO (ad.map (·.add (m * n + j))) = some v := by
        intro vss
        induction vss with
        | nil => intro m _ _ j v hj; simp at hj
        | cons vs vss ih =>
          intro m hlen hm j v hj
          rw [List.flatten_cons] at hj
          have hvl := hlen vs (List.mem_cons_self ..)
          by_cases q : j < vs.length
          · rw [List.getElem?_append_left q] at hj
            have := hm 0 (by simp) j v hj
            simpa using this
          · rw [List.getElem?_append_right (by omega)] at hj
            have := ih (m + 1) (fun ws hw => hlen ws (List.mem_cons_of_mem _ hw)) (fun i h' => by
              have := hm (i + 1) (by simpa using h')
              rw [Nat.succ_mul] at this ⊢
              rw [show m * n + n + i * n = m * n + (i * n + n) by omega]
              simpa using this) (j - vs.length) v hj
            rw [Nat.succ_mul, show m * n + n + (j - vs.length) = m * n + j by omega] at this
            exact this
      have hlen : ∀ ws ∈ vs :: vss, ws.length = n := by
        intro ws hw
        obtain ⟨i, hi, rfl⟩ := List.getElem_of_mem hw
        exact E.len (h i (by rw [← hl]; exact hi) hi).1
      exact key (vs :: vss) m hlen hm j v hj
theorem repE_of {n : Nat} {α : Type} {E : Elt n α} {I : Imm} {ad : Option Addr} {c : Nat} (al : List α) (hc : al.length ≤ c) (hb : al.length ≤ 1954687338211) (h : ∀ i (h : i < al.length), ∃ vs, E.R I al[i] vs ∧ At I ad (i * n) vs) : RepE E I (.slice ad al.length c) al := by
  have hex : ∃ vss : List (List Value), vss.length = al.length ∧ ∀ i (h : i < al.length) (h' : i < vss.length), E.R I al[i] vss[i] ∧ At I ad (i * n) vss[i] := by
    classical
    refine ⟨(List.range al.length).map fun i => if h' : i < al.length then (h i h').choose else [], by simp, fun i h1 h2 => ?_⟩
    rw [List.getElem_map, List.getElem_range, dif_pos h1]
    exact (h i h1).choose_spec
  obtain ⟨vss, hl, hv⟩ := hex
  obtain ⟨h1, h2⟩ := rowE_of al vss hl hv
  refine ⟨ad, c, vss.flatten, rfl, hc, hb, fun j v hj => ?_, h1⟩
  have := h2 0 (fun i h' => by simpa using (hv i (by rw [← hl]; exact h') h').2) j v hj
  simpa using this
structure ClLay (P : Program) (tC tL tT tTs tI tb : TypeId) : Prop where
  lit : LiLay P tL tT tTs tI tb
  sl : P.underlying tC = some (.slice tL)
  bL : P.bytesOf tL = 72
theorem openCl {tC tL tT tTs tI tb : TypeId} (ly : ClLay P tC tL tT tTs tI tb) {fuel : Nat} {cs : List Value} {x : DataW H × List MemPlace} (h1 : DataW.trod enc P W 0 spare held fuel tC cs = some x) (hw : (x.1.weights P tC).all (· ≤ reachBytes) = true) : ∃ (a : Option Addr) (k : Nat) (c : List Li), cs = [.slice a c.length k] ∧ RepC (hImm W) (.slice a c.length k) c := by
  rcases DataW.trod_slice ly.sl h1 with ⟨hcs, _⟩ | ⟨a, len, cap, elems, rest, n', rfl, hcs, hd, _, hl, hm, hlen, hel, hsp, _⟩
  · exact ⟨none, 0, [], by simpa using hcs, RepE.nil⟩
  · obtain ⟨x1, x2⟩ := x
    obtain ⟨rfl, _⟩ := Prod.mk.inj hd
    simp only [DataW.weights, ly.sl, ly.bL, List.all_cons, List.all_append, Bool.and_eq_true, decide_eq_true_eq] at hw
    obtain ⟨hwl, hwe, _⟩ := hw
    have hwe' := weights_all hwe
    have hrb : reachBytes = 140737488351232 := rfl
    simp only [List.length_map, hlen] at hwl
    have hall : ∀ i, i < len → ∃ y : Li, ∃ vs, LitE.R (hImm W) y vs ∧ At (hImm W) (some a) (i * 5) vs := by
      intro i hi
      have hy := hel i hi
      rw [ly.lit.cL] at hy
      have hie : elems[i]? = some elems[i] := List.getElem?_eq_getElem (by omega)
      rw [hie, Option.bind_eq_some_iff] at hy
      obtain ⟨cs', hcs', htr⟩ := hy
      obtain ⟨_, hca⟩ := cells_allC hcs'
      obtain ⟨y, la, ra, lc, rc, rfl, h1, h2⟩ := openLi ly.lit htr (hwe' _ (List.mem_map.2 ⟨_, List.getElem_mem (by omega), rfl⟩))
      refine ⟨y, _, ⟨la, lc, ra, rc, rfl, h1, h2⟩, fun j v hj => ?_⟩
      have := hca j v hj
      rw [add_add] at this
      exact this
    obtain ⟨c, hcl, hc2⟩ := pick_list hall
    subst hcl
    exact ⟨some a, cap, c, by simpa using hcs, repE_of c hl (by omega) hc2⟩
theorem openCv {tC tL tT tTs tI tb : TypeId} (ly : ClLay P tC tL tT tTs tI tb) {v : Value} {d : DataW H} {ps : List MemPlace} (h : DataW.Trod enc P W 0 spare held tC v d ps) (hw : (d.weights P tC).all (· ≤ reachBytes) = true) (hv : ∃ a l c, v = .slice a l c) : ∃ c, RepC (hImm W) v c := by
  obtain ⟨a, l, c, rfl⟩ := hv
  obtain ⟨fuel, h1⟩ := h
  obtain ⟨a', k, cl, hcs, hr⟩ := openCl ly h1 hw
  simp [Value.cells] at hcs
  obtain ⟨rfl, rfl, rfl⟩ := hcs
  exact ⟨cl, hr⟩
end Go.Proofs.YtdbadicpbmndbaaGreat
