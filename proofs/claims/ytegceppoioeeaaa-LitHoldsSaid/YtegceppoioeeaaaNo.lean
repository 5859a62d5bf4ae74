/- Walks: what a term is in a world; the statement on literals in worlds. -/
import Derived.Test.YtegceppoioeeaaaNm
set_option linter.unusedVariables false
set_option linter.unusedSimpArgs false
set_option linter.unnecessarySimpa false
/- short -/
namespace Go.Proofs.Ytegceppoioeeaaa
open Go Lg

theorem WValue_does {gs : List Sy} {w : Wd} {os : List Int} (hR : WR gs w) (hos : ∀ x ∈ os, 0 ≤ x ∧ x < w.size) : ∀ (n : Nat) (t : T), t.size ≤ n → OkG gs t → ∀ (I : Imm) (vw vo v : Value), RepW I vw w → RInts I vo os → RepT I v t →
    Does Try.prog 65 [vw, vo, v] I [] (fun v _ δ' => (v = .int .i64 (wvT w os t) ∧ (trL gs t = false → 0 ≤ wvT w os t ∧ wvT w os t < w.size)) ∧ δ' = []) := by
  intro n
  induction n with
  | zero => intro t h; have := t.size_pos; omega
  | succ n ih =>
    intro t hn hO I vw vo v hw hvo hv
    have hw0 := hw
    have hvo0 := hvo
    obtain ⟨A, c, rfl, hlen, hatR⟩ := hw.open
    obtain ⟨h, ts⟩ := t
    obtain ⟨ad, ac, ss, rfl, hr, hc, hb, hat, hsub⟩ := hv.elim
    have hsz : (T.mk h ts).size = 1 + sizeL ts := by simp [T.size]
    have hhd := hO.heads (true, .mk h ts) (by rw [visT_eq]; exact List.mem_cons_self ..)
    have hh := (chk_vis hO.chk (true, .mk h ts) (by rw [visT_eq]; exact List.mem_cons_self ..)).2
    simp only at hhd hh
    change h < 0 ∨ (0 ≤ h ∧ h < gs.length) at hhd
    change -256 ≤ h at hh
    have h8 : ts.length ≤ 400 := by have := chkT_size hO.chk; have := sizeL_len ts; omega
    have hlo := hR.lo
    have hhi := hR.hi
    have hch : ∀ i (hi : i < ts.length), OkG gs ts[i] ∧ trL gs ts[i] = false := fun i hi => ⟨(hO.child i hi).1, arg_thing hO i hi⟩
    have hlo2 : (os.length : Int) ≤ 17592186044416 := by have := hvo.len.1; omega
    have hosl := hvo.shape
    obtain ⟨od, oc, rfl⟩ := hosl
    have hoc := hvo.cells
    refine Does.intro Try.func65 rfl Try.ntmps65 rfl fun w0 => ?_
    refine code_seq ?_
    refine code_region ?_
    refine o_box rfl rfl rfl (fun b3 => ?_)
    refine o_box rfl rfl rfl (fun b5 => ?_)
    refine op_v (v_assign rfl) rfl ?_
    refine ops_nil ?_
    refine post_next ?_
    refine code_seq ?_
    refine code_seq ?_
    refine code_region ?_
    first | refine op_v (v_fieldB 0 Try.underlying25 rfl rfl fz3 rfl) rfl ?_ | refine op_v (v_fieldI 0 Try.underlying25 rfl rfl fz3 rfl (by assumption)) rfl ?_ | refine op_v (v_field Try.underlying25 rfl fz3 rfl rfl) rfl ?_
    refine op_v (v_loadA ty3 rfl rfl) rfl ?_
    by_cases h12 : h < 0
    · have hval : wvT w os (.mk h ts) = (os[(-1 - h).toNat]?).getD 0 := by simp only [wvT]; rw [if_pos h12]
      first | refine op_v (v_cmptA rfl rfl rfl) rfl ?_ | refine op_v (v_cmpfA rfl rfl rfl) rfl ?_ | refine op_v (v_cmp rfl rfl rfl) rfl ?_
      refine ops_nil ?_
      refine post_next ?_
      refine code_cond_t rfl ?_
      refine code_seq ?_
      refine code_region ?_
      first | refine op_v (v_fieldB 0 Try.underlying25 rfl rfl fz3 rfl) rfl ?_ | refine op_v (v_fieldI 0 Try.underlying25 rfl rfl fz3 rfl (by assumption)) rfl ?_ | refine op_v (v_field Try.underlying25 rfl fz3 rfl rfl) rfl ?_
      refine op_v (v_loadA ty3 rfl rfl) rfl ?_
      first | refine op_v (v_subb rfl rfl rfl (by omega)) rfl ?_ | refine op_v (v_sub rfl rfl) rfl ?_
      refine op_v (v_assign rfl) rfl ?_
      refine ops_nil ?_
      refine post_next ?_
      refine code_seq ?_
      refine code_seq ?_
      refine code_region ?_
      refine op_v (v_move rfl) rfl ?_
      refine op_v (v_move rfl) rfl ?_
      refine op_v (v_len Try.underlying42 rfl) rfl ?_
      by_cases h19 : -1 - h < (os.length : Int)
      · have hltv : (-1 - h).toNat < os.length := by omega
        have hsv := ints_some hoc _ hltv
        have hval2 : wvT w os (.mk h ts) = os[(-1 - h).toNat] := by rw [hval, List.getElem?_eq_getElem hltv]; rfl
        have hrv := hos _ (List.getElem_mem hltv)
        first | refine op_v (v_cmptA rfl rfl rfl) rfl ?_ | refine op_v (v_cmpfA rfl rfl rfl) rfl ?_ | refine op_v (v_cmp rfl rfl rfl) rfl ?_
        refine ops_nil ?_
        refine post_next ?_
        refine code_cond_t rfl ?_
        refine code_seq ?_
        refine code_region ?_
        refine op_v (v_move rfl) rfl ?_
        refine op_v (v_move rfl) rfl ?_
        first | refine op_v (v_indexA Try.underlying42 sz3 rfl rfl) rfl ?_ | refine op_v (v_indexIA Try.underlying42 sz3 rfl rfl) rfl ?_
        first | refine op_v (v_loadI0 ty3 ((ints_at hoc _ hltv).mono Imm.leA) rfl rfl rfl) rfl ?_ | refine op_v (v_loadI ty3 ((ints_at hoc _ hltv).mono Imm.leA) rfl rfl rfl) rfl ?_
        refine op_v (v_assign rfl) rfl ?_
        refine ops_nil ?_
        refine post_next ?_
        refine code_ret ?_
        refine post_ret_then ?_
        refine post_ret_then ?_
        refine post_ret (rs := [.tmp 6]) rfl (List.Perm.refl _) (.cons (.tmp rfl) .nil) (List.nil_sublist _) ?_
        exact ⟨⟨by rw [hval2]; rfl, fun _ => by rw [hval2]; exact hrv⟩, rfl⟩
      · first | refine op_v (v_cmptA rfl rfl rfl) rfl ?_ | refine op_v (v_cmpfA rfl rfl rfl) rfl ?_ | refine op_v (v_cmp rfl rfl rfl) rfl ?_
        refine ops_nil ?_
        refine post_next ?_
        refine code_cond_f rfl ?_
        refine code_skip ?_
        refine post_next ?_
        refine code_seq ?_
        refine code_region ?_
        refine op_v (v_assign rfl) rfl ?_
        refine ops_nil ?_
        refine post_next ?_
        refine code_ret ?_
        refine post_ret_then ?_
        refine post_ret (rs := [.tmp 6]) rfl (List.Perm.refl _) (.cons (.tmp rfl) .nil) (List.nil_sublist _) ?_
        have hval2 : wvT w os (.mk h ts) = 0 := by rw [hval, List.getElem?_eq_none (by omega)]; rfl
        exact ⟨⟨by rw [hval2]; rfl, fun _ => by rw [hval2]; omega⟩, rfl⟩
    · have hlt0 : h.toNat < gs.length := by omega
      have hltr : h.toNat < w.rows.length := by rw [hR.len]; exact hlt0
      obtain ⟨ed, ec, hate, hre⟩ := hatR h.toNat hltr
      have hs1 := hate.isSome
      obtain ⟨har4, harl, hrow⟩ := hR.each h.toNat hlt0
      have har0 := right_ar hO.right h.toNat hlt0
      have hlar : (ts.length : Int) = gs[h.toNat].ar := by { have h1 := hO.arity (show 0 ≤ (T.mk h ts).head by show 0 ≤ h; omega); change (ts.length : Int) = arG gs h at h1; rw [arG_at (show 0 ≤ h by omega) (by omega)] at h1; exact h1 }
      have hl4 : ts.length ≤ 4 := by omega
      have hpow : ∀ k : Nat, k ≤ 4 → 1 ≤ w.size ^ k ∧ w.size ^ k ≤ 256 := fun k hk => by
        have h1 := pow_bound hlo hhi k hk
        have h2 : (4 : Int) ^ k ≤ 256 := by rcases k with _ | _ | _ | _ | _ | k <;> first | decide | omega
        omega
      first | refine op_v (v_cmptA rfl rfl rfl) rfl ?_ | refine op_v (v_cmpfA rfl rfl rfl) rfl ?_ | refine op_v (v_cmp rfl rfl rfl) rfl ?_
      refine ops_nil ?_
      refine post_next ?_
      refine code_cond_f rfl ?_
      refine code_skip ?_
      refine post_next ?_
      refine code_seq ?_
      refine code_region ?_
      refine op_v (v_assign rfl) rfl ?_
      refine ops_nil ?_
      refine post_next ?_
      refine code_seq ?_
      refine code_seq ?_
      refine code_region ?_
      refine op_v (v_assign rfl) rfl ?_
      refine ops_nil ?_
      refine post_next ?_
      refine code_block ?_
      refine code_loop (fun m σ' I' δ' => ∃ k : Nat, m = ts.length - k ∧ k ≤ ts.length ∧ σ' = [(1, .slice od os.length oc), (3, .pointer (some ⟨b3, 0, none⟩)), (5, .pointer (some ⟨b5, 0, none⟩)), (8, .int .i64 (wvL w os 0 (ts.take k))), (9, .int .i64 k)] ∧ I.le I' ∧ δ' = [.box b5 25 [.int .i64 h, .slice ad ts.length ac], .box b3 41 [.int .i64 w.size, .slice A w.rows.length c]] ∧ 0 ≤ wvL w os 0 (ts.take k) ∧ wvL w os 0 (ts.take k) < w.size ^ k) ts.length [(1, .slice od os.length oc), (3, .pointer (some ⟨b3, 0, none⟩)), (5, .pointer (some ⟨b5, 0, none⟩)), (8, .int .i64 0), (9, .int .i64 (0 : Nat))] ⟨0, rfl, Nat.zero_le _, by simp [wvL], Imm.le_refl _, rfl, by simp [wvL], by simp [wvL]⟩ ⟨rfl, rfl, rfl, rfl, rfl, trivial⟩ ?_
      rintro m _ I1 _ ⟨k, rfl, hk, rfl, hI1, rfl, hp0, hp1⟩
      refine code_seq ?_
      refine code_seq ?_
      refine code_region ?_
      refine op_v (v_move rfl) rfl ?_
      first | refine op_v (v_fieldB 1 Try.underlying25 rfl rfl fz23 rfl) rfl ?_ | refine op_v (v_fieldI 1 Try.underlying25 rfl rfl fz23 rfl (by assumption)) rfl ?_ | refine op_v (v_field Try.underlying25 rfl fz23 rfl rfl) rfl ?_
      refine op_v (v_loadA ty23 rfl rfl) rfl ?_
      refine op_v (v_len Try.underlying23 rfl) rfl ?_
      first | refine op_v (v_cmptA rfl rfl rfl) rfl ?_ | refine op_v (v_cmpfA rfl rfl rfl) rfl ?_ | refine op_v (v_cmp rfl rfl rfl) rfl ?_
      refine ops_nil ?_
      refine post_next ?_
      refine code_cond rfl (fun hc2 => ?_) (fun hc2 => ?_)
      · have hlt : k < ts.length := by simpa using hc2
        have hs2 := (hat k hlt).isSome
        have hm := sizeL_mem ts k hlt
        have hpk := hpow k (by omega)
        have hpk1 := hpow (k + 1) (by omega)
        have hmul0 : 0 ≤ wvL w os 0 (ts.take k) * w.size := Int.mul_nonneg hp0 (by omega)
        have hmul1 : wvL w os 0 (ts.take k) * w.size + w.size ≤ w.size ^ (k + 1) := by
          have h9 : (wvL w os 0 (ts.take k) + 1) * w.size ≤ w.size ^ k * w.size := Int.mul_le_mul_of_nonneg_right (by omega) (by omega)
          rw [Int.add_mul, Int.one_mul] at h9
          rw [Int.pow_succ]; exact h9
        refine code_skip ?_
        refine post_next ?_
        refine code_seq ?_
        refine code_block ?_
        refine code_draw (.fl 0 (.fl 1 (.fl 2 (.fl 3 (.fl 4 (.fl 5 (.fl 6 (.fl 7 (.fl 8 (.fl 9 (.fl 10 (.ef 11 (.fl 12 (.ef 13 .done)))))))))))))) (fun _ => _) mixed (by kernel_rfl) (by kernel_rfl) (fun _ => (List.Sublist.refl _)) ?_
        refine e_fl rfl rfl (fun hs_ => PF.mk rfl (v_move rfl) hs_) ?_
        first | refine e_fl rfl rfl (fun hs_ => PF.mk rfl (v_fieldB 0 Try.underlying41 rfl rfl fz3 rfl) hs_) ?_ | refine e_fl rfl rfl (fun hs_ => PF.mk rfl (v_fieldI 0 Try.underlying41 rfl rfl fz3 rfl (by assumption)) hs_) ?_ | refine e_fl rfl rfl (fun hs_ => PF.mk rfl (v_field Try.underlying41 rfl fz3 rfl rfl) hs_) ?_
        refine e_fl rfl rfl (fun hs_ => PF.mk rfl (v_loadA ty3 rfl rfl) hs_) ?_
        refine e_fl rfl rfl (fun hs_ => PF.mk rfl (v_mulb (c := wvL w os 0 (ts.take k) * w.size) rfl rfl rfl ⟨by omega, by omega⟩) hs_) ?_
        refine e_fl rfl rfl (fun hs_ => PF.mk rfl (v_loadA ty41 rfl rfl) hs_) ?_
        refine e_fl rfl rfl (fun hs_ => PF.mk rfl (v_move rfl) hs_) ?_
        first | refine e_fl rfl rfl (fun hs_ => PF.mk rfl (v_fieldB 1 Try.underlying25 rfl rfl fz23 rfl) hs_) ?_ | refine e_fl rfl rfl (fun hs_ => PF.mk rfl (v_fieldI 1 Try.underlying25 rfl rfl fz23 rfl (by assumption)) hs_) ?_ | refine e_fl rfl rfl (fun hs_ => PF.mk rfl (v_field Try.underlying25 rfl fz23 rfl rfl) hs_) ?_
        refine e_fl rfl rfl (fun hs_ => PF.mk rfl (v_loadA ty23 rfl rfl) hs_) ?_
        refine e_fl rfl rfl (fun hs_ => PF.mk rfl (v_move rfl) hs_) ?_
        first | refine e_fl rfl rfl (fun hs_ => PF.mk rfl (v_indexA Try.underlying23 sz25 rfl rfl) hs_) ?_ | refine e_fl rfl rfl (fun hs_ => PF.mk rfl (v_indexIA Try.underlying23 sz25 rfl rfl) hs_) ?_
        first | refine e_fl rfl rfl (fun hs_ => PF.mk rfl (v_loadI0 ty25 ((hat k hlt).mono hI1) rfl rfl rfl) hs_) ?_ | refine e_fl rfl rfl (fun hs_ => PF.mk rfl (v_loadI ty25 ((hat k hlt).mono hI1) rfl rfl rfl) hs_) ?_
        refine e_eff rfl (by intro cs b hc; cases hc) (by intro c hc; cases hc) ?_
        refine op_call pl65 rfl rfl ((ih ts[k] (by omega) (hch k hlt).1 _ _ _ _ (hw0.mono hI1) (hvo0.mono hI1) ((hsub k hlt).mono hI1))) Parts.none ?_
        rintro _ I42 _ hI42 ⟨⟨rfl, hq42⟩, rfl⟩
        have hq := hq42 (hch k hlt).2
        refine ops_nil ?_
        refine e_next rfl side_allA ?_
        first | refine e_fl rfl rfl (fun hs_ => PF.mk rfl (v_addb rfl rfl rfl (by omega)) hs_) ?_ | refine e_fl rfl rfl (fun hs_ => PF.mk rfl (v_add rfl rfl) hs_) ?_
        refine e_eff rfl (by intro cs b hc; cases hc) (by intro c hc; cases hc) ?_
        refine op_v (v_assign rfl) rfl ?_
        refine ops_nil ?_
        refine e_next rfl (side_nil (by kernel_rfl)) ?_
        refine e_done ?_
        refine post_out ?_
        refine post_next ?_
        refine code_region ?_
        refine op_v (v_move rfl) rfl ?_
        first | refine op_v (v_addb rfl rfl rfl (by omega)) rfl ?_ | refine op_v (v_add rfl rfl) rfl ?_
        refine op_v (v_assign rfl) rfl ?_
        refine ops_nil ?_
        refine post_again (ts.length - (k + 1)) [(1, .slice od os.length oc), (3, .pointer (some ⟨b3, 0, none⟩)), (5, .pointer (some ⟨b5, 0, none⟩)), (8, .int .i64 (wvL w os 0 (ts.take k) * w.size + wvT w os ts[k])), (9, .int .i64 (k + 1 : Nat))] (by omega) ⟨k + 1, rfl, hlt, by rw [wvL_take w os ts k hlt], Imm.leA, rfl, by rw [wvL_take w os ts k hlt]; omega, by rw [wvL_take w os ts k hlt]; omega⟩ ⟨rfl, rfl, rfl, rfl, rfl, trivial⟩
      · have hge : k = ts.length := by simp at hc2; omega
        refine code_exit ?_
        refine post_exit_then ?_
        refine post_exit_then ?_
        refine post_exit ?_
        refine post_next ?_
        refine code_seq ?_
        refine code_region ?_
        subst hge
        rw [List.take_length] at hp0 hp1 ⊢
        have hidx : (wvL w os 0 ts).toNat < (w.rows[h.toNat]'hltr).length := by
          have e : gs[h.toNat].ar.toNat = ts.length := by omega
          rw [e] at harl; omega
        have hs3 := ints_some hre.cells _ hidx
        have hval : wvT w os (.mk h ts) = (w.rows[h.toNat]'hltr)[(wvL w os 0 ts).toNat]'hidx := by simp only [wvT]; rw [if_neg h12, List.getElem?_eq_getElem hltr]; simp [List.getD_eq_getElem?_getD, List.getElem?_eq_getElem hidx]
        have hin := hrow _ (List.getElem_mem hidx)
        first | refine op_v (v_fieldB 1 Try.underlying41 rfl rfl fz39 rfl) rfl ?_ | refine op_v (v_fieldI 1 Try.underlying41 rfl rfl fz39 rfl (by assumption)) rfl ?_ | refine op_v (v_field Try.underlying41 rfl fz39 rfl rfl) rfl ?_
        refine op_v (v_loadA ty39 rfl rfl) rfl ?_
        first | refine op_v (v_fieldB 0 Try.underlying25 rfl rfl fz3 rfl) rfl ?_ | refine op_v (v_fieldI 0 Try.underlying25 rfl rfl fz3 rfl (by assumption)) rfl ?_ | refine op_v (v_field Try.underlying25 rfl fz3 rfl rfl) rfl ?_
        refine op_v (v_loadA ty3 rfl rfl) rfl ?_
        first | refine op_v (v_indexA Try.underlying39 sz42 rfl rfl) rfl ?_ | refine op_v (v_indexIA Try.underlying39 sz42 rfl rfl) rfl ?_
        first | refine op_v (v_loadI0 ty42 (hate.mono Imm.leA) rfl rfl rfl) rfl ?_ | refine op_v (v_loadI ty42 (hate.mono Imm.leA) rfl rfl rfl) rfl ?_
        refine op_v (v_move rfl) rfl ?_
        first | refine op_v (v_indexA Try.underlying42 sz3 rfl rfl) rfl ?_ | refine op_v (v_indexIA Try.underlying42 sz3 rfl rfl) rfl ?_
        first | refine op_v (v_loadI0 ty3 ((ints_at hre.cells _ hidx).mono Imm.leA) rfl rfl rfl) rfl ?_ | refine op_v (v_loadI ty3 ((ints_at hre.cells _ hidx).mono Imm.leA) rfl rfl rfl) rfl ?_
        refine op_v (v_assign rfl) rfl ?_
        refine ops_nil ?_
        refine post_next ?_
        refine code_ret ?_
        refine post_ret (rs := [.tmp 6]) rfl (List.Perm.refl _) (.cons (.tmp rfl) .nil) (List.nil_sublist _) ?_
        refine ⟨⟨by rw [hval]; rfl, fun htr => ?_⟩, rfl⟩
        rw [hval]
        refine ⟨hin.1, hin.2 ?_⟩
        unfold trL at htr
        rw [show (T.mk h ts).head = h from rfl, trG_at (by omega) (by omega), show decide (0 ≤ h) = true by simp; omega, Bool.true_and] at htr
        exact htr
def litW (w : Wd) (os : List Int) (x : Li) : Bool := !(decide (wvT w os x.l = wvT w os x.r) == x.neg)
theorem litW_same {w : Wd} {os : List Int} {x y : Li} (h : sameL x y = true) : litW w os x = litW w os y := by
  unfold sameL at h
  rw [Bool.and_eq_true, beq_iff_eq] at h
  have heq : (x.l = y.l ∧ x.r = y.r) ∨ (x.l = y.r ∧ x.r = y.l) := by simpa [eqL] using h.2
  unfold litW
  rw [h.1]
  rcases heq with ⟨e1, e2⟩ | ⟨e1, e2⟩
  · rw [e1, e2]
  · rw [e1, e2]; congr 2; exact decide_eq_decide.2 ⟨Eq.symm, Eq.symm⟩
theorem litW_opp {w : Wd} {os : List Int} {x y : Li} (h : oppL x y = true) : litW w os x = !litW w os y := by
  have h1 : (x.neg == y.neg) = false := by unfold oppL at h; rw [Bool.and_eq_true] at h; simpa using h.1
  have hq : sameL x ⟨x.neg, y.l, y.r⟩ = true := by unfold oppL at h; rw [Bool.and_eq_true] at h; unfold sameL; simp; exact h.2
  rw [litW_same hq]
  unfold litW
  simp only
  cases hx : x.neg <;> cases hy : y.neg <;> rw [hx, hy] at h1 <;> simp at h1 <;> cases decide (wvT w os y.l = wvT w os y.r) <;> rfl
theorem litW_triv {w : Wd} {os : List Int} {x : Li} (h : x.l = x.r) : litW w os x = !x.neg := by
  unfold litW; rw [h]; cases x.neg <;> simp
theorem WLit_does {gs : List Sy} {w : Wd} {os : List Int} {x : Li} (hR : WR gs w) (hos : ∀ x ∈ os, 0 ≤ x ∧ x < w.size) (h0 : litG gs x = 0) {I : Imm} {vw vo va : Value} (hw : RepW I vw w) (hvo : RInts I vo os) (ha : RepL I va x) :
    Does Try.prog 25 [vw, vo, va] I [] (fun v _ δ' => v = .bool (litW w os x) ∧ δ' = []) := by
  have hw0 := hw
  have hvo0 := hvo
  obtain ⟨A, c, rfl, hlen, hatR⟩ := hw.open
  obtain ⟨la, lc, ra, rc, rfl, hl, hr⟩ := ha
  obtain ⟨od, oc, rfl⟩ := hvo.shape
  obtain ⟨o1, o2⟩ := litG_ok h0
  refine Does.intro Try.func25 rfl Try.ntmps25 rfl fun w0 => ?_
  refine code_seq ?_
  refine code_region ?_
  refine o_box rfl rfl rfl (fun b3 => ?_)
  refine o_box rfl rfl rfl (fun b5 => ?_)
  refine op_v (v_assign rfl) rfl ?_
  refine ops_nil ?_
  refine post_next ?_
  refine code_seq ?_
  refine code_draw (.fl 0 (.fl 1 (.fl 2 (.fl 3 (.fl 5 (.fl 6 (.fl 7 (.fl 8 (.fl 11 (.fl 12 (.ef 4 (.ef 9 (.fl 10 (.fl 13 (.ef 14 .done))))))))))))))) (fun _ => _) mixed (by kernel_rfl) (by kernel_rfl) (fun _ => (List.Sublist.refl _)) ?_
  refine e_fl rfl rfl (fun hs_ => PF.mk rfl (v_loadA ty41 rfl rfl) hs_) ?_
  refine e_fl rfl rfl (fun hs_ => PF.mk rfl (v_move rfl) hs_) ?_
  first | refine e_fl rfl rfl (fun hs_ => PF.mk rfl (v_fieldB 1 Try.underlying27 rfl rfl fz25 rfl) hs_) ?_ | refine e_fl rfl rfl (fun hs_ => PF.mk rfl (v_fieldI 1 Try.underlying27 rfl rfl fz25 rfl (by assumption)) hs_) ?_ | refine e_fl rfl rfl (fun hs_ => PF.mk rfl (v_field Try.underlying27 rfl fz25 rfl rfl) hs_) ?_
  refine e_fl rfl rfl (fun hs_ => PF.mk rfl (v_loadA ty25 rfl rfl) hs_) ?_
  refine e_fl rfl rfl (fun hs_ => PF.mk rfl (v_loadA ty41 rfl rfl) hs_) ?_
  refine e_fl rfl rfl (fun hs_ => PF.mk rfl (v_move rfl) hs_) ?_
  first | refine e_fl rfl rfl (fun hs_ => PF.mk rfl (v_fieldB 3 Try.underlying27 rfl rfl fz25 rfl) hs_) ?_ | refine e_fl rfl rfl (fun hs_ => PF.mk rfl (v_fieldI 3 Try.underlying27 rfl rfl fz25 rfl (by assumption)) hs_) ?_ | refine e_fl rfl rfl (fun hs_ => PF.mk rfl (v_field Try.underlying27 rfl fz25 rfl rfl) hs_) ?_
  refine e_fl rfl rfl (fun hs_ => PF.mk rfl (v_loadA ty25 rfl rfl) hs_) ?_
  first | refine e_fl rfl rfl (fun hs_ => PF.mk rfl (v_fieldB 0 Try.underlying27 rfl rfl fz4 rfl) hs_) ?_ | refine e_fl rfl rfl (fun hs_ => PF.mk rfl (v_fieldI 0 Try.underlying27 rfl rfl fz4 rfl (by assumption)) hs_) ?_ | refine e_fl rfl rfl (fun hs_ => PF.mk rfl (v_field Try.underlying27 rfl fz4 rfl rfl) hs_) ?_
  refine e_fl rfl rfl (fun hs_ => PF.mk rfl (v_loadA ty4 rfl rfl) hs_) ?_
  refine e_eff rfl (by intro cs b hc; cases hc) (by intro c hc; cases hc) ?_
  refine op_call pl65 rfl rfl ((WValue_does hR hos _ _ (Nat.le_refl _) o1 _ _ _ _ (hw0.mono Imm.leA) (hvo0.mono Imm.leA) (hl.mono Imm.leA))) Parts.none ?_
  rintro _ I11 _ hI11 ⟨⟨rfl, _⟩, rfl⟩
  refine ops_nil ?_
  refine e_next rfl side_allA ?_
  refine e_eff rfl (by intro cs b hc; cases hc) (by intro c hc; cases hc) ?_
  refine op_call pl65 rfl rfl ((WValue_does hR hos _ _ (Nat.le_refl _) o2 _ _ _ _ (hw0.mono Imm.leA) (hvo0.mono Imm.leA) (hr.mono Imm.leA))) Parts.none ?_
  rintro _ I16 _ hI16 ⟨⟨rfl, _⟩, rfl⟩
  refine ops_nil ?_
  refine e_next rfl side_allA ?_
  refine e_fl rfl rfl (fun hs_ => PF.mk rfl (v_cmp (z := decide (wvT w os x.l = wvT w os x.r)) rfl rfl rfl) hs_) ?_
  refine e_fl rfl rfl (fun hs_ => PF.mk rfl (v_eqb (z := litW w os x) Try.underlying4 rfl rfl rfl) hs_) ?_
  refine e_eff rfl (by intro cs b hc; cases hc) (by intro c hc; cases hc) ?_
  refine op_v (v_assign rfl) rfl ?_
  refine ops_nil ?_
  refine e_next rfl (side_nil (by kernel_rfl)) ?_
  refine e_done ?_
  refine post_next ?_
  refine code_ret ?_
  refine post_ret (rs := [.tmp 6]) rfl (List.Perm.refl _) (.cons (.tmp rfl) .nil) (List.nil_sublist _) ?_
  exact ⟨rfl, rfl⟩
theorem LitHolds_does {I : Imm} {vg vw va vb vo : Value} {gs : List Sy} {w : Wd} {x y : Li} {os : List Int} (hg : RepG I vg gs) (hw : RepW I vw w) (ha : RepL I va x) (hb : RepL I vb y) (hvo : RInts I vo os) :
    Does Try.prog 4 [vg, vw, va, vb, vo] I [] (fun v I' δ' => v = .bool true ∧ δ' = []) := by
  have hw0 := hw
  have hvo0 := hvo
  have ha0 := ha
  have hb0 := hb
  obtain ⟨A, c, rfl, hlen, hatR⟩ := hw.open
  obtain ⟨la, lc, ra, rc, rfl, hl, hr⟩ := ha
  obtain ⟨ma, mc, na, nc, rfl, kl, kr⟩ := hb
  obtain ⟨od, oc, rfl⟩ := hvo.shape
  have hol := hvo.len.1
  have hoc := hvo.cells
  refine Does.intro Try.func4 rfl Try.ntmps4 rfl fun w0 => ?_
  refine code_seq ?_
  refine code_region ?_
  refine o_box rfl rfl rfl (fun b6 => ?_)
  refine o_box rfl rfl rfl (fun b7 => ?_)
  refine o_box rfl rfl rfl (fun b8 => ?_)
  refine op_v (v_assign rfl) rfl ?_
  refine ops_nil ?_
  refine post_next ?_
  refine code_seq ?_
  refine code_seq ?_
  refine code_region ?_
  refine op_v (v_move rfl) rfl ?_
  refine op_call pl14 rfl rfl ((FewG_does (hg.mono Imm.leA))) Parts.none ?_
  rintro v15 I15 _ hI15 ⟨rfl, rfl⟩
  by_cases e1 : fewG gs = true
  · rw [e1]
    refine op_v (v_not rfl) rfl ?_
    refine op_v (v_move rfl) rfl ?_
    first
      | (refine op_want rfl rfl ?_
         refine op_v (v_loadA ty41 rfl rfl) rfl ?_)
      | (refine op_skip rfl rfl (by simp [undef]) rfl ?_)
    first
      | (refine op_want rfl rfl ?_
         refine op_call pl22 rfl rfl ((WFew_does (hw0.mono Imm.leA))) Parts.none ?_
         rintro v19 I19 _ hI19 ⟨⟨b19, rfl⟩, rfl⟩)
      | (refine op_skip rfl rfl (by simp [undef]) rfl ?_)
    by_cases e2 : b19 = true
    · subst e2
      first
        | (refine op_want rfl rfl ?_
           refine op_v (v_not rfl) rfl ?_)
        | (refine op_skip rfl rfl (by simp [undef]) rfl ?_)
      first | refine op_v (v_pickt rfl rfl) rfl ?_ | refine op_v (v_pickf rfl rfl) rfl ?_ | refine op_v (v_pickb rfl rfl rfl) rfl ?_
      refine op_v (v_move rfl) rfl ?_
      first
        | (refine op_want rfl rfl ?_
           refine op_v (v_loadA ty27 rfl rfl) rfl ?_)
        | (refine op_skip rfl rfl (by simp [undef]) rfl ?_)
      first
        | (refine op_want rfl rfl ?_
           refine op_call pl15 rfl rfl ((FewL_does (ha0.mono Imm.leA))) Parts.none ?_
           rintro v24 I24 _ hI24 ⟨rfl, rfl⟩)
        | (refine op_skip rfl rfl (by simp [undef]) rfl ?_)
      by_cases e3 : fewL x = true
      · rw [e3]
        have hsz : x.l.size ≤ 500 ∧ x.r.size ≤ 500 := by simpa [fewL] using e3
        first
          | (refine op_want rfl rfl ?_
             refine op_v (v_not rfl) rfl ?_)
          | (refine op_skip rfl rfl (by simp [undef]) rfl ?_)
        first | refine op_v (v_pickt rfl rfl) rfl ?_ | refine op_v (v_pickf rfl rfl) rfl ?_ | refine op_v (v_pickb rfl rfl rfl) rfl ?_
        refine op_v (v_move rfl) rfl ?_
        first
          | (refine op_want rfl rfl ?_
             refine op_v (v_loadA ty27 rfl rfl) rfl ?_)
          | (refine op_skip rfl rfl (by simp [undef]) rfl ?_)
        first
          | (refine op_want rfl rfl ?_
             refine op_call pl15 rfl rfl ((FewL_does (hb0.mono Imm.leA))) Parts.none ?_
             rintro v29 I29 _ hI29 ⟨rfl, rfl⟩)
          | (refine op_skip rfl rfl (by simp [undef]) rfl ?_)
        by_cases e4 : fewL y = true
        · rw [e4]
          have hsy : y.l.size ≤ 500 ∧ y.r.size ≤ 500 := by simpa [fewL] using e4
          first
            | (refine op_want rfl rfl ?_
               refine op_v (v_not rfl) rfl ?_)
            | (refine op_skip rfl rfl (by simp [undef]) rfl ?_)
          first | refine op_v (v_pickt rfl rfl) rfl ?_ | refine op_v (v_pickf rfl rfl) rfl ?_ | refine op_v (v_pickb rfl rfl rfl) rfl ?_
          refine op_v (v_move rfl) rfl ?_
          first
            | (refine op_want rfl rfl ?_
               refine op_v (v_move rfl) rfl ?_)
            | (refine op_skip rfl rfl (by simp [undef]) rfl ?_)
          first
            | (refine op_want rfl rfl ?_
               refine op_v (v_len Try.underlying42 rfl) rfl ?_)
            | (refine op_skip rfl rfl (by simp [undef]) rfl ?_)
          by_cases e5 : 300 < os.length
          · first
              | (refine op_want rfl rfl ?_
                 first | refine op_v (v_cmptA rfl rfl rfl) rfl ?_ | refine op_v (v_cmpfA rfl rfl rfl) rfl ?_ | refine op_v (v_cmp rfl rfl rfl) rfl ?_)
              | (refine op_skip rfl rfl (by simp [undef]) rfl ?_)
            first | refine op_v (v_pickt rfl rfl) rfl ?_ | refine op_v (v_pickf rfl rfl) rfl ?_ | refine op_v (v_pickb rfl rfl rfl) rfl ?_
            refine ops_nil ?_
            refine post_next ?_
            refine code_cond_t rfl ?_
            refine code_seq ?_
            refine code_region ?_
            refine op_v (v_assign rfl) rfl ?_
            refine ops_nil ?_
            refine post_next ?_
            refine code_ret ?_
            refine post_ret_then ?_
            refine post_ret (rs := [.tmp 10]) rfl (List.Perm.refl _) (.cons (.tmp rfl) .nil) (List.nil_sublist _) ?_
            exact ⟨rfl, rfl⟩
          · first
              | (refine op_want rfl rfl ?_
                 first | refine op_v (v_cmptA rfl rfl rfl) rfl ?_ | refine op_v (v_cmpfA rfl rfl rfl) rfl ?_ | refine op_v (v_cmp rfl rfl rfl) rfl ?_)
              | (refine op_skip rfl rfl (by simp [undef]) rfl ?_)
            first | refine op_v (v_pickt rfl rfl) rfl ?_ | refine op_v (v_pickf rfl rfl) rfl ?_ | refine op_v (v_pickb rfl rfl rfl) rfl ?_
            refine ops_nil ?_
            refine post_next ?_
            refine code_cond_f rfl ?_
            refine code_skip ?_
            refine post_next ?_
            refine code_seq ?_
            refine code_seq ?_
            refine code_region ?_
            refine op_v (v_move rfl) rfl ?_
            refine op_v (v_loadA ty41 rfl rfl) rfl ?_
            refine op_call pl23 rfl rfl ((WRight_does (hg.mono Imm.leA) (hw0.mono Imm.leA))) Parts.none ?_
            rintro v39 I39 _ hI39 ⟨⟨b39, rfl, hb39⟩, rfl⟩
            by_cases e6 : b39 = true
            · subst e6
              have hR := hb39 rfl
              refine op_v (v_not rfl) rfl ?_
              refine op_v (v_move rfl) rfl ?_
              first
                | (refine op_want rfl rfl ?_
                   refine op_v (v_move rfl) rfl ?_)
                | (refine op_skip rfl rfl (by simp [undef]) rfl ?_)
              first
                | (refine op_want rfl rfl ?_
                   refine op_v (v_loadA ty27 rfl rfl) rfl ?_)
                | (refine op_skip rfl rfl (by simp [undef]) rfl ?_)
              first
                | (refine op_want rfl rfl ?_
                   refine op_call pl18 rfl rfl ((LCheck_does (hg.mono Imm.leA) (ha0.mono Imm.leA) (by omega) (by omega))) Parts.none ?_
                   rintro _ I44 _ hI44 ⟨rfl, rfl⟩)
                | (refine op_skip rfl rfl (by simp [undef]) rfl ?_)
              by_cases e7 : litG gs x ≠ 0
              · first
                  | (refine op_want rfl rfl ?_
                     first | refine op_v (v_cmptA rfl rfl rfl) rfl ?_ | refine op_v (v_cmpfA rfl rfl rfl) rfl ?_ | refine op_v (v_cmp rfl rfl rfl) rfl ?_)
                  | (refine op_skip rfl rfl (by simp [undef]) rfl ?_)
                first | refine op_v (v_pickt rfl rfl) rfl ?_ | refine op_v (v_pickf rfl rfl) rfl ?_ | refine op_v (v_pickb rfl rfl rfl) rfl ?_
                refine op_v (v_move rfl) rfl ?_
                first
                  | (refine op_want rfl rfl ?_
                     refine op_v (v_move rfl) rfl ?_)
                  | (refine op_skip rfl rfl (by simp [undef]) rfl ?_)
                first
                  | (refine op_want rfl rfl ?_
                     refine op_v (v_loadA ty27 rfl rfl) rfl ?_)
                  | (refine op_skip rfl rfl (by simp [undef]) rfl ?_)
                first
                  | (refine op_want rfl rfl ?_
                     refine op_call pl18 rfl rfl ((LCheck_does (hg.mono Imm.leA) (hb0.mono Imm.leA) (by omega) (by omega))) Parts.none ?_
                     rintro _ I50 _ hI50 ⟨rfl, rfl⟩)
                  | (refine op_skip rfl rfl (by simp [undef]) rfl ?_)
                first
                  | (refine op_want rfl rfl ?_
                     first | refine op_v (v_cmptA rfl rfl rfl) rfl ?_ | refine op_v (v_cmpfA rfl rfl rfl) rfl ?_ | refine op_v (v_cmp rfl rfl rfl) rfl ?_)
                  | (refine op_skip rfl rfl (by simp [undef]) rfl ?_)
                first | refine op_v (v_pickt rfl rfl) rfl ?_ | refine op_v (v_pickf rfl rfl) rfl ?_ | refine op_v (v_pickb rfl rfl rfl) rfl ?_
                refine ops_nil ?_
                refine post_next ?_
                refine code_cond_t rfl ?_
                refine code_seq ?_
                refine code_region ?_
                refine op_call pl17 rfl rfl ((awake9_does _)) Parts.none ?_
                rintro _ I53 _ hI53 ⟨rfl, rfl⟩
                refine op_v (v_assign rfl) rfl ?_
                refine ops_nil ?_
                refine post_next ?_
                refine code_ret ?_
                refine post_ret_then ?_
                refine post_ret (rs := [.tmp 10]) rfl (List.Perm.refl _) (.cons (.tmp rfl) .nil) (List.nil_sublist _) ?_
                exact ⟨rfl, rfl⟩
              · first
                  | (refine op_want rfl rfl ?_
                     first | refine op_v (v_cmptA rfl rfl rfl) rfl ?_ | refine op_v (v_cmpfA rfl rfl rfl) rfl ?_ | refine op_v (v_cmp rfl rfl rfl) rfl ?_)
                  | (refine op_skip rfl rfl (by simp [undef]) rfl ?_)
                first | refine op_v (v_pickt rfl rfl) rfl ?_ | refine op_v (v_pickf rfl rfl) rfl ?_ | refine op_v (v_pickb rfl rfl rfl) rfl ?_
                refine op_v (v_move rfl) rfl ?_
                first
                  | (refine op_want rfl rfl ?_
                     refine op_v (v_move rfl) rfl ?_)
                  | (refine op_skip rfl rfl (by simp [undef]) rfl ?_)
                first
                  | (refine op_want rfl rfl ?_
                     refine op_v (v_loadA ty27 rfl rfl) rfl ?_)
                  | (refine op_skip rfl rfl (by simp [undef]) rfl ?_)
                first
                  | (refine op_want rfl rfl ?_
                     refine op_call pl18 rfl rfl ((LCheck_does (hg.mono Imm.leA) (hb0.mono Imm.leA) (by omega) (by omega))) Parts.none ?_
                     rintro _ I50 _ hI50 ⟨rfl, rfl⟩)
                  | (refine op_skip rfl rfl (by simp [undef]) rfl ?_)
                by_cases e8 : litG gs y ≠ 0
                · first
                    | (refine op_want rfl rfl ?_
                       first | refine op_v (v_cmptA rfl rfl rfl) rfl ?_ | refine op_v (v_cmpfA rfl rfl rfl) rfl ?_ | refine op_v (v_cmp rfl rfl rfl) rfl ?_)
                    | (refine op_skip rfl rfl (by simp [undef]) rfl ?_)
                  first | refine op_v (v_pickt rfl rfl) rfl ?_ | refine op_v (v_pickf rfl rfl) rfl ?_ | refine op_v (v_pickb rfl rfl rfl) rfl ?_
                  refine ops_nil ?_
                  refine post_next ?_
                  refine code_cond_t rfl ?_
                  refine code_seq ?_
                  refine code_region ?_
                  refine op_call pl17 rfl rfl ((awake9_does _)) Parts.none ?_
                  rintro _ I53 _ hI53 ⟨rfl, rfl⟩
                  refine op_v (v_assign rfl) rfl ?_
                  refine ops_nil ?_
                  refine post_next ?_
                  refine code_ret ?_
                  refine post_ret_then ?_
                  refine post_ret (rs := [.tmp 10]) rfl (List.Perm.refl _) (.cons (.tmp rfl) .nil) (List.nil_sublist _) ?_
                  exact ⟨rfl, rfl⟩
                · have z1 : litG gs x = 0 := by omega
                  have z2 : litG gs y = 0 := by omega
                  first
                    | (refine op_want rfl rfl ?_
                       first | refine op_v (v_cmptA rfl rfl rfl) rfl ?_ | refine op_v (v_cmpfA rfl rfl rfl) rfl ?_ | refine op_v (v_cmp rfl rfl rfl) rfl ?_)
                    | (refine op_skip rfl rfl (by simp [undef]) rfl ?_)
                  first | refine op_v (v_pickt rfl rfl) rfl ?_ | refine op_v (v_pickf rfl rfl) rfl ?_ | refine op_v (v_pickb rfl rfl rfl) rfl ?_
                  refine ops_nil ?_
                  refine post_next ?_
                  refine code_cond_f rfl ?_
                  refine code_skip ?_
                  refine post_next ?_
                  refine code_seq ?_
                  refine code_seq ?_
                  refine code_region ?_
                  refine op_v (v_assign rfl) rfl ?_
                  refine ops_nil ?_
                  refine post_next ?_
                  refine code_block ?_
                  refine code_loop (fun m σ' I' δ' => ∃ k : Nat, m = os.length - k ∧ k ≤ os.length ∧ σ' = [(0, vg), (4, .slice od os.length oc), (6, .pointer (some ⟨b6, 0, none⟩)), (7, .pointer (some ⟨b7, 0, none⟩)), (8, .pointer (some ⟨b8, 0, none⟩)), (11, .int .i64 k)] ∧ I.le I' ∧ δ' = [.box b8 27 (liC y ma mc na nc), .box b7 27 (liC x la lc ra rc), .box b6 41 [.int .i64 w.size, .slice A w.rows.length c]] ∧ ∀ i (h : i < os.length), i < k → 0 ≤ os[i] ∧ os[i] < w.size) os.length [(0, vg), (4, .slice od os.length oc), (6, .pointer (some ⟨b6, 0, none⟩)), (7, .pointer (some ⟨b7, 0, none⟩)), (8, .pointer (some ⟨b8, 0, none⟩)), (11, .int .i64 (0 : Nat))] ⟨0, rfl, Nat.zero_le _, rfl, Imm.leA, rfl, fun i _ h => by omega⟩ ⟨rfl, rfl, rfl, rfl, rfl, rfl, trivial⟩ ?_
                  rintro m _ I1 _ ⟨k, rfl, hk, rfl, hI1, rfl, hp⟩
                  refine code_seq ?_
                  refine code_seq ?_
                  refine code_region ?_
                  refine op_v (v_move rfl) rfl ?_
                  refine op_v (v_move rfl) rfl ?_
                  refine op_v (v_len Try.underlying42 rfl) rfl ?_
                  first | refine op_v (v_cmptA rfl rfl rfl) rfl ?_ | refine op_v (v_cmpfA rfl rfl rfl) rfl ?_ | refine op_v (v_cmp rfl rfl rfl) rfl ?_
                  refine ops_nil ?_
                  refine post_next ?_
                  refine code_cond rfl (fun hc2 => ?_) (fun hc2 => ?_)
                  · have hlt : k < os.length := by simpa using hc2
                    have hs1 := ints_some hoc k hlt
                    refine code_skip ?_
                    refine post_next ?_
                    refine code_seq ?_
                    refine code_block ?_
                    refine code_seq ?_
                    refine code_draw (.fl 0 (.fl 1 (.fl 2 (.fl 3 (.fl 4 (.fl 5 (.fl 6 (.fl 7 (.fl 8 (.fl 9 (.fl 10 (.fl 11 (.fl 12 (.fl 13 .done)))))))))))))) (fun _ => _) mixed (by kernel_rfl) (by kernel_rfl) (fun _ => (List.Sublist.refl _)) ?_
                    refine e_fl rfl rfl (fun hs_ => PF.mk rfl (v_move rfl) hs_) ?_
                    refine e_fl rfl rfl (fun hs_ => PF.mk rfl (v_move rfl) hs_) ?_
                    first | refine e_fl rfl rfl (fun hs_ => PF.mk rfl (v_indexA Try.underlying42 sz3 rfl rfl) hs_) ?_ | refine e_fl rfl rfl (fun hs_ => PF.mk rfl (v_indexIA Try.underlying42 sz3 rfl rfl) hs_) ?_
                    first | refine e_fl rfl rfl (fun hs_ => PF.mk rfl (v_loadI0 ty3 ((ints_at hoc k hlt).mono Imm.leA) rfl rfl rfl) hs_) ?_ | refine e_fl rfl rfl (fun hs_ => PF.mk rfl (v_loadI ty3 ((ints_at hoc k hlt).mono Imm.leA) rfl rfl rfl) hs_) ?_
                    by_cases e9 : os[k] < 0
                    · first | refine e_fl rfl rfl (fun hs_ => PF.mk rfl (v_cmptA rfl rfl rfl) hs_) ?_ | refine e_fl rfl rfl (fun hs_ => PF.mk rfl (v_cmpfA rfl rfl rfl) hs_) ?_ | refine e_fl rfl rfl (fun hs_ => PF.mk rfl (v_cmp rfl rfl rfl) hs_) ?_
                      refine e_fl rfl rfl (fun hs_ => PF.mk rfl (v_move rfl) hs_) ?_
                      first | refine e_fl rfl rfl (fun hs_ => PF.mkg rfl rfl rfl (v_move rfl) hs_) ?_ | refine e_fl rfl rfl (fun hs_ => PF.mks rfl (by intro c hc; cases hc) rfl rfl (by simp [undef]) hs_) ?_
                      first | refine e_fl rfl rfl (fun hs_ => PF.mkg rfl rfl rfl (v_move rfl) hs_) ?_ | refine e_fl rfl rfl (fun hs_ => PF.mks rfl (by intro c hc; cases hc) rfl rfl (by simp [undef]) hs_) ?_
                      first | refine e_fl rfl rfl (fun hs_ => PF.mkg rfl rfl rfl (v_indexA Try.underlying42 sz3 rfl rfl) hs_) ?_ | refine e_fl rfl rfl (fun hs_ => PF.mkg rfl rfl rfl (v_indexIA Try.underlying42 sz3 rfl rfl) hs_) ?_ | refine e_fl rfl rfl (fun hs_ => PF.mks rfl (by intro c hc; cases hc) rfl rfl (by simp [undef]) hs_) ?_
                      first | refine e_fl rfl rfl (fun hs_ => PF.mkg rfl rfl rfl (v_loadI0 ty3 ((ints_at hoc k hlt).mono Imm.leA) rfl rfl rfl) hs_) ?_ | refine e_fl rfl rfl (fun hs_ => PF.mkg rfl rfl rfl (v_loadI ty3 ((ints_at hoc k hlt).mono Imm.leA) rfl rfl rfl) hs_) ?_ | refine e_fl rfl rfl (fun hs_ => PF.mks rfl (by intro c hc; cases hc) rfl rfl (by simp [undef]) hs_) ?_
                      first | refine e_fl rfl rfl (fun hs_ => PF.mkg rfl rfl rfl (v_fieldB 0 Try.underlying41 rfl rfl fz3 rfl) hs_) ?_ | refine e_fl rfl rfl (fun hs_ => PF.mkg rfl rfl rfl (v_fieldI 0 Try.underlying41 rfl rfl fz3 rfl (by assumption)) hs_) ?_ | refine e_fl rfl rfl (fun hs_ => PF.mkg rfl rfl rfl (v_field Try.underlying41 rfl fz3 rfl rfl) hs_) ?_ | refine e_fl rfl rfl (fun hs_ => PF.mks rfl (by intro c hc; cases hc) rfl rfl (by simp [undef]) hs_) ?_
                      first | refine e_fl rfl rfl (fun hs_ => PF.mkg rfl rfl rfl (v_loadA ty3 rfl rfl) hs_) ?_ | refine e_fl rfl rfl (fun hs_ => PF.mks rfl (by intro c hc; cases hc) rfl rfl (by simp [undef]) hs_) ?_
                      first | refine e_fl rfl rfl (fun hs_ => PF.mkg rfl rfl rfl (v_cmptA rfl rfl rfl) hs_) ?_ | refine e_fl rfl rfl (fun hs_ => PF.mkg rfl rfl rfl (v_cmpfA rfl rfl rfl) hs_) ?_ | refine e_fl rfl rfl (fun hs_ => PF.mkg rfl rfl rfl (v_cmp rfl rfl rfl) hs_) ?_ | refine e_fl rfl rfl (fun hs_ => PF.mks rfl (by intro c hc; cases hc) rfl rfl (by simp [undef]) hs_) ?_
                      first | refine e_fl rfl rfl (fun hs_ => PF.mk rfl (v_pickt rfl rfl) hs_) ?_ | refine e_fl rfl rfl (fun hs_ => PF.mk rfl (v_pickf rfl rfl) hs_) ?_ | refine e_fl rfl rfl (fun hs_ => PF.mk rfl (v_pickb rfl rfl rfl) hs_) ?_
                      refine e_done ?_
                      refine post_next ?_
                      refine code_cond_t rfl ?_
                      refine code_seq ?_
                      refine code_region ?_
                      refine op_call pl17 rfl rfl ((awake9_does _)) Parts.none ?_
                      rintro _ I74 _ hI74 ⟨rfl, rfl⟩
                      refine op_v (v_assign rfl) rfl ?_
                      refine ops_nil ?_
                      refine post_next ?_
                      refine code_ret ?_
                      refine post_ret_block ?_
                      refine post_ret_then ?_
                      refine post_ret_then ?_
                      refine post_ret_block ?_
                      refine post_ret_then ?_
                      refine post_ret (rs := [.tmp 10]) rfl (List.Perm.refl _) (.cons (.tmp rfl) .nil) (List.nil_sublist _) ?_
                      exact ⟨rfl, rfl⟩
                    · first | refine e_fl rfl rfl (fun hs_ => PF.mk rfl (v_cmptA rfl rfl rfl) hs_) ?_ | refine e_fl rfl rfl (fun hs_ => PF.mk rfl (v_cmpfA rfl rfl rfl) hs_) ?_ | refine e_fl rfl rfl (fun hs_ => PF.mk rfl (v_cmp rfl rfl rfl) hs_) ?_
                      refine e_fl rfl rfl (fun hs_ => PF.mk rfl (v_move rfl) hs_) ?_
                      first | refine e_fl rfl rfl (fun hs_ => PF.mkg rfl rfl rfl (v_move rfl) hs_) ?_ | refine e_fl rfl rfl (fun hs_ => PF.mks rfl (by intro c hc; cases hc) rfl rfl (by simp [undef]) hs_) ?_
                      first | refine e_fl rfl rfl (fun hs_ => PF.mkg rfl rfl rfl (v_move rfl) hs_) ?_ | refine e_fl rfl rfl (fun hs_ => PF.mks rfl (by intro c hc; cases hc) rfl rfl (by simp [undef]) hs_) ?_
                      first | refine e_fl rfl rfl (fun hs_ => PF.mkg rfl rfl rfl (v_indexA Try.underlying42 sz3 rfl rfl) hs_) ?_ | refine e_fl rfl rfl (fun hs_ => PF.mkg rfl rfl rfl (v_indexIA Try.underlying42 sz3 rfl rfl) hs_) ?_ | refine e_fl rfl rfl (fun hs_ => PF.mks rfl (by intro c hc; cases hc) rfl rfl (by simp [undef]) hs_) ?_
                      first | refine e_fl rfl rfl (fun hs_ => PF.mkg rfl rfl rfl (v_loadI0 ty3 ((ints_at hoc k hlt).mono Imm.leA) rfl rfl rfl) hs_) ?_ | refine e_fl rfl rfl (fun hs_ => PF.mkg rfl rfl rfl (v_loadI ty3 ((ints_at hoc k hlt).mono Imm.leA) rfl rfl rfl) hs_) ?_ | refine e_fl rfl rfl (fun hs_ => PF.mks rfl (by intro c hc; cases hc) rfl rfl (by simp [undef]) hs_) ?_
                      first | refine e_fl rfl rfl (fun hs_ => PF.mkg rfl rfl rfl (v_fieldB 0 Try.underlying41 rfl rfl fz3 rfl) hs_) ?_ | refine e_fl rfl rfl (fun hs_ => PF.mkg rfl rfl rfl (v_fieldI 0 Try.underlying41 rfl rfl fz3 rfl (by assumption)) hs_) ?_ | refine e_fl rfl rfl (fun hs_ => PF.mkg rfl rfl rfl (v_field Try.underlying41 rfl fz3 rfl rfl) hs_) ?_ | refine e_fl rfl rfl (fun hs_ => PF.mks rfl (by intro c hc; cases hc) rfl rfl (by simp [undef]) hs_) ?_
                      first | refine e_fl rfl rfl (fun hs_ => PF.mkg rfl rfl rfl (v_loadA ty3 rfl rfl) hs_) ?_ | refine e_fl rfl rfl (fun hs_ => PF.mks rfl (by intro c hc; cases hc) rfl rfl (by simp [undef]) hs_) ?_
                      by_cases e10 : w.size ≤ os[k]
                      · first | refine e_fl rfl rfl (fun hs_ => PF.mkg rfl rfl rfl (v_cmptA rfl rfl rfl) hs_) ?_ | refine e_fl rfl rfl (fun hs_ => PF.mkg rfl rfl rfl (v_cmpfA rfl rfl rfl) hs_) ?_ | refine e_fl rfl rfl (fun hs_ => PF.mkg rfl rfl rfl (v_cmp rfl rfl rfl) hs_) ?_ | refine e_fl rfl rfl (fun hs_ => PF.mks rfl (by intro c hc; cases hc) rfl rfl (by simp [undef]) hs_) ?_
                        first | refine e_fl rfl rfl (fun hs_ => PF.mk rfl (v_pickt rfl rfl) hs_) ?_ | refine e_fl rfl rfl (fun hs_ => PF.mk rfl (v_pickf rfl rfl) hs_) ?_ | refine e_fl rfl rfl (fun hs_ => PF.mk rfl (v_pickb rfl rfl rfl) hs_) ?_
                        refine e_done ?_
                        refine post_next ?_
                        refine code_cond_t rfl ?_
                        refine code_seq ?_
                        refine code_region ?_
                        refine op_call pl17 rfl rfl ((awake9_does _)) Parts.none ?_
                        rintro _ I74 _ hI74 ⟨rfl, rfl⟩
                        refine op_v (v_assign rfl) rfl ?_
                        refine ops_nil ?_
                        refine post_next ?_
                        refine code_ret ?_
                        refine post_ret_block ?_
                        refine post_ret_then ?_
                        refine post_ret_then ?_
                        refine post_ret_block ?_
                        refine post_ret_then ?_
                        refine post_ret (rs := [.tmp 10]) rfl (List.Perm.refl _) (.cons (.tmp rfl) .nil) (List.nil_sublist _) ?_
                        exact ⟨rfl, rfl⟩
                      · first | refine e_fl rfl rfl (fun hs_ => PF.mkg rfl rfl rfl (v_cmptA rfl rfl rfl) hs_) ?_ | refine e_fl rfl rfl (fun hs_ => PF.mkg rfl rfl rfl (v_cmpfA rfl rfl rfl) hs_) ?_ | refine e_fl rfl rfl (fun hs_ => PF.mkg rfl rfl rfl (v_cmp rfl rfl rfl) hs_) ?_ | refine e_fl rfl rfl (fun hs_ => PF.mks rfl (by intro c hc; cases hc) rfl rfl (by simp [undef]) hs_) ?_
                        first | refine e_fl rfl rfl (fun hs_ => PF.mk rfl (v_pickt rfl rfl) hs_) ?_ | refine e_fl rfl rfl (fun hs_ => PF.mk rfl (v_pickf rfl rfl) hs_) ?_ | refine e_fl rfl rfl (fun hs_ => PF.mk rfl (v_pickb rfl rfl rfl) hs_) ?_
                        refine e_done ?_
                        refine post_next ?_
                        refine code_cond_f rfl ?_
                        refine code_skip ?_
                        refine post_out ?_
                        refine post_next ?_
                        refine code_region ?_
                        refine op_v (v_move rfl) rfl ?_
                        first | refine op_v (v_addb rfl rfl rfl (by omega)) rfl ?_ | refine op_v (v_add rfl rfl) rfl ?_
                        refine op_v (v_assign rfl) rfl ?_
                        refine ops_nil ?_
                        refine post_again (os.length - (k + 1)) [(0, vg), (4, .slice od os.length oc), (6, .pointer (some ⟨b6, 0, none⟩)), (7, .pointer (some ⟨b7, 0, none⟩)), (8, .pointer (some ⟨b8, 0, none⟩)), (11, .int .i64 (k + 1 : Nat))] (by omega) ⟨k + 1, rfl, hlt, rfl, Imm.leA, rfl, fun i h hi => ?_⟩ ⟨rfl, rfl, rfl, rfl, rfl, rfl, trivial⟩
                        rcases Nat.lt_or_ge i k with hik | hik
                        · exact hp i h hik
                        have hik2 : i = k := by omega
                        subst hik2
                        exact ⟨by omega, by omega⟩
                  · have hge : k = os.length := by simp at hc2; omega
                    have hos : ∀ x ∈ os, 0 ≤ x ∧ x < w.size := fun q hq => by obtain ⟨i, hi, rfl⟩ := List.getElem_of_mem hq; exact hp i hi (by omega)
                    refine code_exit ?_
                    refine post_exit_then ?_
                    refine post_exit_then ?_
                    refine post_exit ?_
                    refine post_next ?_
                    refine code_seq ?_
                    refine code_seq ?_
                    refine code_region ?_
                    refine op_v (v_move rfl) rfl ?_
                    refine op_v (v_loadA ty27 rfl rfl) rfl ?_
                    refine op_call pl24 rfl rfl ((RLCheck_does (hg.mono Imm.leA) (ha0.mono Imm.leA) (by omega) (by omega))) Parts.none ?_
                    rintro _ I77 _ hI77 ⟨rfl, rfl⟩
                    rw [z1]
                    first | refine op_v (v_cmptA rfl rfl rfl) rfl ?_ | refine op_v (v_cmpfA rfl rfl rfl) rfl ?_ | refine op_v (v_cmp rfl rfl rfl) rfl ?_
                    refine op_v (v_move rfl) rfl ?_
                    first
                      | (refine op_want rfl rfl ?_
                         refine op_v (v_move rfl) rfl ?_)
                      | (refine op_skip rfl rfl (by simp [undef]) rfl ?_)
                    first
                      | (refine op_want rfl rfl ?_
                         refine op_v (v_loadA ty27 rfl rfl) rfl ?_)
                      | (refine op_skip rfl rfl (by simp [undef]) rfl ?_)
                    first
                      | (refine op_want rfl rfl ?_
                         refine op_call pl24 rfl rfl ((RLCheck_does (hg.mono Imm.leA) (hb0.mono Imm.leA) (by omega) (by omega))) Parts.none ?_
                         rintro _ I82 _ hI82 ⟨rfl, rfl⟩
                         rw [z2])
                      | (refine op_skip rfl rfl (by simp [undef]) rfl ?_)
                    first
                      | (refine op_want rfl rfl ?_
                         first | refine op_v (v_cmptA rfl rfl rfl) rfl ?_ | refine op_v (v_cmpfA rfl rfl rfl) rfl ?_ | refine op_v (v_cmp rfl rfl rfl) rfl ?_)
                      | (refine op_skip rfl rfl (by simp [undef]) rfl ?_)
                    first | refine op_v (v_pickt rfl rfl) rfl ?_ | refine op_v (v_pickf rfl rfl) rfl ?_ | refine op_v (v_pickb rfl rfl rfl) rfl ?_
                    refine ops_nil ?_
                    refine post_next ?_
                    refine code_cond_f rfl ?_
                    refine code_skip ?_
                    refine post_next ?_
                    refine code_seq ?_
                    refine code_region ?_
                    refine op_v (v_loadA ty41 rfl rfl) rfl ?_
                    refine op_v (v_move rfl) rfl ?_
                    refine op_v (v_loadA ty27 rfl rfl) rfl ?_
                    refine op_call pl25 rfl rfl ((WLit_does hR hos z1 (hw0.mono Imm.leA) (hvo0.mono Imm.leA) (ha0.mono Imm.leA))) Parts.none ?_
                    rintro _ I88 _ hI88 ⟨rfl, rfl⟩
                    refine op_v (v_assign rfl) rfl ?_
                    refine ops_nil ?_
                    refine post_next ?_
                    refine code_seq ?_
                    refine code_region ?_
                    refine op_v (v_loadA ty41 rfl rfl) rfl ?_
                    refine op_v (v_move rfl) rfl ?_
                    refine op_v (v_loadA ty27 rfl rfl) rfl ?_
                    refine op_call pl25 rfl rfl ((WLit_does hR hos z2 (hw0.mono Imm.leA) (hvo0.mono Imm.leA) (hb0.mono Imm.leA))) Parts.none ?_
                    rintro _ I92 _ hI92 ⟨rfl, rfl⟩
                    refine op_v (v_assign rfl) rfl ?_
                    refine ops_nil ?_
                    refine post_next ?_
                    refine code_seq ?_
                    refine code_region ?_
                    refine op_call pl17 rfl rfl ((awake9_does _)) Parts.none ?_
                    rintro _ I93 _ hI93 ⟨rfl, rfl⟩
                    refine op_v (v_move rfl) rfl ?_
                    first
                      | (refine op_want rfl rfl ?_
                         refine op_v (v_loadA ty27 rfl rfl) rfl ?_)
                      | (refine op_skip rfl rfl (by simp [undef]) rfl ?_)
                    first
                      | (refine op_want rfl rfl ?_
                         refine op_v (v_loadA ty27 rfl rfl) rfl ?_)
                      | (refine op_skip rfl rfl (by simp [undef]) rfl ?_)
                    first
                      | (refine op_want rfl rfl ?_
                         refine op_call pl20 rfl rfl ((LSame_does (ha0.mono Imm.leA) (hb0.mono Imm.leA) (by omega) (by omega) (by omega) (by omega))) Parts.none ?_
                         rintro _ I97 _ hI97 ⟨rfl, rfl⟩)
                      | (refine op_skip rfl rfl (by simp [undef]) rfl ?_)
                    by_cases e11 : sameL x y = true
                    · rw [e11]
                      have e12' : oppL x y = false := by { have hq := e11; unfold sameL at hq; rw [Bool.and_eq_true] at hq; unfold oppL; rw [hq.1]; rfl }
                      first
                        | (refine op_want rfl rfl ?_
                           refine op_v (v_not rfl) rfl ?_)
                        | (refine op_skip rfl rfl (by simp [undef]) rfl ?_)
                      first
                        | (refine op_want rfl rfl ?_
                           refine op_v (v_move rfl) rfl ?_)
                        | (refine op_skip rfl rfl (by simp [undef]) rfl ?_)
                      first
                        | (refine op_want rfl rfl ?_
                           refine op_v (v_move rfl) rfl ?_)
                        | (refine op_skip rfl rfl (by simp [undef]) rfl ?_)
                      first
                        | (refine op_want rfl rfl ?_
                           refine op_v (v_move rfl) rfl ?_)
                        | (refine op_skip rfl rfl (by simp [undef]) rfl ?_)
                      first
                        | (refine op_want rfl rfl ?_
                           refine op_v (v_eqb (z := true) Try.underlying4 rfl rfl (by rw [litW_same (w := w) (os := os) e11]; simp [cmpB])) rfl ?_)
                        | (refine op_skip rfl rfl (by simp [undef]) rfl ?_)
                      first
                        | (refine op_want rfl rfl ?_
                           first | refine op_v (v_pickt rfl rfl) rfl ?_ | refine op_v (v_pickf rfl rfl) rfl ?_ | refine op_v (v_pickb rfl rfl rfl) rfl ?_)
                        | (refine op_skip rfl rfl (by simp [undef]) rfl ?_)
                      first | refine op_v (v_pickt rfl rfl) rfl ?_ | refine op_v (v_pickf rfl rfl) rfl ?_ | refine op_v (v_pickb rfl rfl rfl) rfl ?_
                      refine op_v (v_move rfl) rfl ?_
                      first
                        | (refine op_want rfl rfl ?_
                           refine op_v (v_loadA ty27 rfl rfl) rfl ?_)
                        | (refine op_skip rfl rfl (by simp [undef]) rfl ?_)
                      first
                        | (refine op_want rfl rfl ?_
                           refine op_v (v_loadA ty27 rfl rfl) rfl ?_)
                        | (refine op_skip rfl rfl (by simp [undef]) rfl ?_)
                      first
                        | (refine op_want rfl rfl ?_
                           refine op_call pl26 rfl rfl ((LOpp_does (ha0.mono Imm.leA) (hb0.mono Imm.leA) (by omega) (by omega) (by omega) (by omega))) Parts.none ?_
                           rintro _ I108 _ hI108 ⟨rfl, rfl⟩
                           rw [e12'])
                        | (refine op_skip rfl rfl (by simp [undef]) rfl ?_)
                      first
                        | (refine op_want rfl rfl ?_
                           refine op_v (v_not rfl) rfl ?_)
                        | (refine op_skip rfl rfl (by simp [undef]) rfl ?_)
                      first
                        | (refine op_want rfl rfl ?_
                           refine op_v (v_move rfl) rfl ?_)
                        | (refine op_skip rfl rfl (by simp [undef]) rfl ?_)
                      first
                        | (refine op_want rfl rfl ?_
                           refine op_v (v_move rfl) rfl ?_)
                        | (refine op_skip rfl rfl (by simp [undef]) rfl ?_)
                      first
                        | (refine op_want rfl rfl ?_
                           refine op_v (v_move rfl) rfl ?_)
                        | (refine op_skip rfl rfl (by simp [undef]) rfl ?_)
                      first
                        | (refine op_want rfl rfl ?_
                           refine op_v (v_eqb (z := true) Try.underlying4 rfl rfl (by rw [litW_opp (w := w) (os := os) e12]; cases litW w os y <;> rfl)) rfl ?_)
                        | (refine op_skip rfl rfl (by simp [undef]) rfl ?_)
                      first
                        | (refine op_want rfl rfl ?_
                           first | refine op_v (v_pickt rfl rfl) rfl ?_ | refine op_v (v_pickf rfl rfl) rfl ?_ | refine op_v (v_pickb rfl rfl rfl) rfl ?_)
                        | (refine op_skip rfl rfl (by simp [undef]) rfl ?_)
                      first | refine op_v (v_pickt rfl rfl) rfl ?_ | refine op_v (v_pickf rfl rfl) rfl ?_ | refine op_v (v_pickb rfl rfl rfl) rfl ?_
                      refine op_v (v_move rfl) rfl ?_
                      first
                        | (refine op_want rfl rfl ?_
                           refine op_v (v_loadA ty27 rfl rfl) rfl ?_)
                        | (refine op_skip rfl rfl (by simp [undef]) rfl ?_)
                      first
                        | (refine op_want rfl rfl ?_
                           refine op_call pl27 rfl rfl ((LTrivial_does (ha0.mono Imm.leA) (by omega) (by omega))) Parts.none ?_
                           rintro _ I118 _ hI118 ⟨rfl, rfl⟩)
                        | (refine op_skip rfl rfl (by simp [undef]) rfl ?_)
                      by_cases e13 : x.l = x.r
                      · rw [show decide (x.l = x.r) = true by simpa using e13]
                        first
                          | (refine op_want rfl rfl ?_
                             refine op_v (v_not rfl) rfl ?_)
                          | (refine op_skip rfl rfl (by simp [undef]) rfl ?_)
                        first
                          | (refine op_want rfl rfl ?_
                             refine op_v (v_move rfl) rfl ?_)
                          | (refine op_skip rfl rfl (by simp [undef]) rfl ?_)
                        first
                          | (refine op_want rfl rfl ?_
                             refine op_v (v_move rfl) rfl ?_)
                          | (refine op_skip rfl rfl (by simp [undef]) rfl ?_)
                        first
                          | (refine op_want rfl rfl ?_
                             first | refine op_v (v_fieldB 0 Try.underlying27 rfl rfl fz4 rfl) rfl ?_ | refine op_v (v_fieldI 0 Try.underlying27 rfl rfl fz4 rfl (by assumption)) rfl ?_ | refine op_v (v_field Try.underlying27 rfl fz4 rfl rfl) rfl ?_)
                          | (refine op_skip rfl rfl (by simp [undef]) rfl ?_)
                        first
                          | (refine op_want rfl rfl ?_
                             refine op_v (v_loadA ty4 rfl rfl) rfl ?_)
                          | (refine op_skip rfl rfl (by simp [undef]) rfl ?_)
                        first
                          | (refine op_want rfl rfl ?_
                             refine op_v (v_not rfl) rfl ?_)
                          | (refine op_skip rfl rfl (by simp [undef]) rfl ?_)
                        first
                          | (refine op_want rfl rfl ?_
                             refine op_v (v_eqb (z := true) Try.underlying4 rfl rfl (by rw [litW_triv (w := w) (os := os) e13]; simp [cmpB])) rfl ?_)
                          | (refine op_skip rfl rfl (by simp [undef]) rfl ?_)
                        first
                          | (refine op_want rfl rfl ?_
                             first | refine op_v (v_pickt rfl rfl) rfl ?_ | refine op_v (v_pickf rfl rfl) rfl ?_ | refine op_v (v_pickb rfl rfl rfl) rfl ?_)
                          | (refine op_skip rfl rfl (by simp [undef]) rfl ?_)
                        first | refine op_v (v_pickt rfl rfl) rfl ?_ | refine op_v (v_pickf rfl rfl) rfl ?_ | refine op_v (v_pickb rfl rfl rfl) rfl ?_
                        refine op_v (v_assign rfl) rfl ?_
                        refine ops_nil ?_
                        refine post_next ?_
                        refine code_ret ?_
                        refine post_ret (rs := [.tmp 10]) rfl (List.Perm.refl _) (.cons (.tmp rfl) .nil) (List.nil_sublist _) ?_
                        exact ⟨rfl, rfl⟩
                      · rw [show decide (x.l = x.r) = false by simpa using e13]
                        first
                          | (refine op_want rfl rfl ?_
                             refine op_v (v_not rfl) rfl ?_)
                          | (refine op_skip rfl rfl (by simp [undef]) rfl ?_)
                        first
                          | (refine op_want rfl rfl ?_
                             refine op_v (v_move rfl) rfl ?_)
                          | (refine op_skip rfl rfl (by simp [undef]) rfl ?_)
                        first
                          | (refine op_want rfl rfl ?_
                             refine op_v (v_move rfl) rfl ?_)
                          | (refine op_skip rfl rfl (by simp [undef]) rfl ?_)
                        first
                          | (refine op_want rfl rfl ?_
                             first | refine op_v (v_fieldB 0 Try.underlying27 rfl rfl fz4 rfl) rfl ?_ | refine op_v (v_fieldI 0 Try.underlying27 rfl rfl fz4 rfl (by assumption)) rfl ?_ | refine op_v (v_field Try.underlying27 rfl fz4 rfl rfl) rfl ?_)
                          | (refine op_skip rfl rfl (by simp [undef]) rfl ?_)
                        first
                          | (refine op_want rfl rfl ?_
                             refine op_v (v_loadA ty4 rfl rfl) rfl ?_)
                          | (refine op_skip rfl rfl (by simp [undef]) rfl ?_)
                        first
                          | (refine op_want rfl rfl ?_
                             refine op_v (v_not rfl) rfl ?_)
                          | (refine op_skip rfl rfl (by simp [undef]) rfl ?_)
                        first
                          | (refine op_want rfl rfl ?_
                             refine op_v (v_eqb (z := true) Try.underlying4 rfl rfl (by rw [litW_triv (w := w) (os := os) e13]; simp [cmpB])) rfl ?_)
                          | (refine op_skip rfl rfl (by simp [undef]) rfl ?_)
                        first
                          | (refine op_want rfl rfl ?_
                             first | refine op_v (v_pickt rfl rfl) rfl ?_ | refine op_v (v_pickf rfl rfl) rfl ?_ | refine op_v (v_pickb rfl rfl rfl) rfl ?_)
                          | (refine op_skip rfl rfl (by simp [undef]) rfl ?_)
                        first | refine op_v (v_pickt rfl rfl) rfl ?_ | refine op_v (v_pickf rfl rfl) rfl ?_ | refine op_v (v_pickb rfl rfl rfl) rfl ?_
                        refine op_v (v_assign rfl) rfl ?_
                        refine ops_nil ?_
                        refine post_next ?_
                        refine code_ret ?_
                        refine post_ret (rs := [.tmp 10]) rfl (List.Perm.refl _) (.cons (.tmp rfl) .nil) (List.nil_sublist _) ?_
                        exact ⟨rfl, rfl⟩
                    · have e11' : sameL x y = false := by simpa using e11
                      rw [e11']
                      first
                        | (refine op_want rfl rfl ?_
                           refine op_v (v_not rfl) rfl ?_)
                        | (refine op_skip rfl rfl (by simp [undef]) rfl ?_)
                      first
                        | (refine op_want rfl rfl ?_
                           refine op_v (v_move rfl) rfl ?_)
                        | (refine op_skip rfl rfl (by simp [undef]) rfl ?_)
                      first
                        | (refine op_want rfl rfl ?_
                           refine op_v (v_move rfl) rfl ?_)
                        | (refine op_skip rfl rfl (by simp [undef]) rfl ?_)
                      first
                        | (refine op_want rfl rfl ?_
                           refine op_v (v_move rfl) rfl ?_)
                        | (refine op_skip rfl rfl (by simp [undef]) rfl ?_)
                      first
                        | (refine op_want rfl rfl ?_
                           refine op_v (v_eqb (z := true) Try.underlying4 rfl rfl (by rw [litW_same (w := w) (os := os) e11]; simp [cmpB])) rfl ?_)
                        | (refine op_skip rfl rfl (by simp [undef]) rfl ?_)
                      first
                        | (refine op_want rfl rfl ?_
                           first | refine op_v (v_pickt rfl rfl) rfl ?_ | refine op_v (v_pickf rfl rfl) rfl ?_ | refine op_v (v_pickb rfl rfl rfl) rfl ?_)
                        | (refine op_skip rfl rfl (by simp [undef]) rfl ?_)
                      first | refine op_v (v_pickt rfl rfl) rfl ?_ | refine op_v (v_pickf rfl rfl) rfl ?_ | refine op_v (v_pickb rfl rfl rfl) rfl ?_
                      refine op_v (v_move rfl) rfl ?_
                      first
                        | (refine op_want rfl rfl ?_
                           refine op_v (v_loadA ty27 rfl rfl) rfl ?_)
                        | (refine op_skip rfl rfl (by simp [undef]) rfl ?_)
                      first
                        | (refine op_want rfl rfl ?_
                           refine op_v (v_loadA ty27 rfl rfl) rfl ?_)
                        | (refine op_skip rfl rfl (by simp [undef]) rfl ?_)
                      first
                        | (refine op_want rfl rfl ?_
                           refine op_call pl26 rfl rfl ((LOpp_does (ha0.mono Imm.leA) (hb0.mono Imm.leA) (by omega) (by omega) (by omega) (by omega))) Parts.none ?_
                           rintro _ I108 _ hI108 ⟨rfl, rfl⟩)
                        | (refine op_skip rfl rfl (by simp [undef]) rfl ?_)
                      by_cases e12 : oppL x y = true
                      · rw [e12]
                        first
                          | (refine op_want rfl rfl ?_
                             refine op_v (v_not rfl) rfl ?_)
                          | (refine op_skip rfl rfl (by simp [undef]) rfl ?_)
                        first
                          | (refine op_want rfl rfl ?_
                             refine op_v (v_move rfl) rfl ?_)
                          | (refine op_skip rfl rfl (by simp [undef]) rfl ?_)
                        first
                          | (refine op_want rfl rfl ?_
                             refine op_v (v_move rfl) rfl ?_)
                          | (refine op_skip rfl rfl (by simp [undef]) rfl ?_)
                        first
                          | (refine op_want rfl rfl ?_
                             refine op_v (v_move rfl) rfl ?_)
                          | (refine op_skip rfl rfl (by simp [undef]) rfl ?_)
                        first
                          | (refine op_want rfl rfl ?_
                             refine op_v (v_eqb (z := true) Try.underlying4 rfl rfl (by rw [litW_opp (w := w) (os := os) e12]; cases litW w os y <;> rfl)) rfl ?_)
                          | (refine op_skip rfl rfl (by simp [undef]) rfl ?_)
                        first
                          | (refine op_want rfl rfl ?_
                             first | refine op_v (v_pickt rfl rfl) rfl ?_ | refine op_v (v_pickf rfl rfl) rfl ?_ | refine op_v (v_pickb rfl rfl rfl) rfl ?_)
                          | (refine op_skip rfl rfl (by simp [undef]) rfl ?_)
                        first | refine op_v (v_pickt rfl rfl) rfl ?_ | refine op_v (v_pickf rfl rfl) rfl ?_ | refine op_v (v_pickb rfl rfl rfl) rfl ?_
                        refine op_v (v_move rfl) rfl ?_
                        first
                          | (refine op_want rfl rfl ?_
                             refine op_v (v_loadA ty27 rfl rfl) rfl ?_)
                          | (refine op_skip rfl rfl (by simp [undef]) rfl ?_)
                        first
                          | (refine op_want rfl rfl ?_
                             refine op_call pl27 rfl rfl ((LTrivial_does (ha0.mono Imm.leA) (by omega) (by omega))) Parts.none ?_
                             rintro _ I118 _ hI118 ⟨rfl, rfl⟩)
                          | (refine op_skip rfl rfl (by simp [undef]) rfl ?_)
                        by_cases e13 : x.l = x.r
                        · rw [show decide (x.l = x.r) = true by simpa using e13]
                          first
                            | (refine op_want rfl rfl ?_
                               refine op_v (v_not rfl) rfl ?_)
                            | (refine op_skip rfl rfl (by simp [undef]) rfl ?_)
                          first
                            | (refine op_want rfl rfl ?_
                               refine op_v (v_move rfl) rfl ?_)
                            | (refine op_skip rfl rfl (by simp [undef]) rfl ?_)
                          first
                            | (refine op_want rfl rfl ?_
                               refine op_v (v_move rfl) rfl ?_)
                            | (refine op_skip rfl rfl (by simp [undef]) rfl ?_)
                          first
                            | (refine op_want rfl rfl ?_
                               first | refine op_v (v_fieldB 0 Try.underlying27 rfl rfl fz4 rfl) rfl ?_ | refine op_v (v_fieldI 0 Try.underlying27 rfl rfl fz4 rfl (by assumption)) rfl ?_ | refine op_v (v_field Try.underlying27 rfl fz4 rfl rfl) rfl ?_)
                            | (refine op_skip rfl rfl (by simp [undef]) rfl ?_)
                          first
                            | (refine op_want rfl rfl ?_
                               refine op_v (v_loadA ty4 rfl rfl) rfl ?_)
                            | (refine op_skip rfl rfl (by simp [undef]) rfl ?_)
                          first
                            | (refine op_want rfl rfl ?_
                               refine op_v (v_not rfl) rfl ?_)
                            | (refine op_skip rfl rfl (by simp [undef]) rfl ?_)
                          first
                            | (refine op_want rfl rfl ?_
                               refine op_v (v_eqb (z := true) Try.underlying4 rfl rfl (by rw [litW_triv (w := w) (os := os) e13]; simp [cmpB])) rfl ?_)
                            | (refine op_skip rfl rfl (by simp [undef]) rfl ?_)
                          first
                            | (refine op_want rfl rfl ?_
                               first | refine op_v (v_pickt rfl rfl) rfl ?_ | refine op_v (v_pickf rfl rfl) rfl ?_ | refine op_v (v_pickb rfl rfl rfl) rfl ?_)
                            | (refine op_skip rfl rfl (by simp [undef]) rfl ?_)
                          first | refine op_v (v_pickt rfl rfl) rfl ?_ | refine op_v (v_pickf rfl rfl) rfl ?_ | refine op_v (v_pickb rfl rfl rfl) rfl ?_
                          refine op_v (v_assign rfl) rfl ?_
                          refine ops_nil ?_
                          refine post_next ?_
                          refine code_ret ?_
                          refine post_ret (rs := [.tmp 10]) rfl (List.Perm.refl _) (.cons (.tmp rfl) .nil) (List.nil_sublist _) ?_
                          exact ⟨rfl, rfl⟩
                        · rw [show decide (x.l = x.r) = false by simpa using e13]
                          first
                            | (refine op_want rfl rfl ?_
                               refine op_v (v_not rfl) rfl ?_)
                            | (refine op_skip rfl rfl (by simp [undef]) rfl ?_)
                          first
                            | (refine op_want rfl rfl ?_
                               refine op_v (v_move rfl) rfl ?_)
                            | (refine op_skip rfl rfl (by simp [undef]) rfl ?_)
                          first
                            | (refine op_want rfl rfl ?_
                               refine op_v (v_move rfl) rfl ?_)
                            | (refine op_skip rfl rfl (by simp [undef]) rfl ?_)
                          first
                            | (refine op_want rfl rfl ?_
                               first | refine op_v (v_fieldB 0 Try.underlying27 rfl rfl fz4 rfl) rfl ?_ | refine op_v (v_fieldI 0 Try.underlying27 rfl rfl fz4 rfl (by assumption)) rfl ?_ | refine op_v (v_field Try.underlying27 rfl fz4 rfl rfl) rfl ?_)
                            | (refine op_skip rfl rfl (by simp [undef]) rfl ?_)
                          first
                            | (refine op_want rfl rfl ?_
                               refine op_v (v_loadA ty4 rfl rfl) rfl ?_)
                            | (refine op_skip rfl rfl (by simp [undef]) rfl ?_)
                          first
                            | (refine op_want rfl rfl ?_
                               refine op_v (v_not rfl) rfl ?_)
                            | (refine op_skip rfl rfl (by simp [undef]) rfl ?_)
                          first
                            | (refine op_want rfl rfl ?_
                               refine op_v (v_eqb (z := true) Try.underlying4 rfl rfl (by rw [litW_triv (w := w) (os := os) e13]; simp [cmpB])) rfl ?_)
                            | (refine op_skip rfl rfl (by simp [undef]) rfl ?_)
                          first
                            | (refine op_want rfl rfl ?_
                               first | refine op_v (v_pickt rfl rfl) rfl ?_ | refine op_v (v_pickf rfl rfl) rfl ?_ | refine op_v (v_pickb rfl rfl rfl) rfl ?_)
                            | (refine op_skip rfl rfl (by simp [undef]) rfl ?_)
                          first | refine op_v (v_pickt rfl rfl) rfl ?_ | refine op_v (v_pickf rfl rfl) rfl ?_ | refine op_v (v_pickb rfl rfl rfl) rfl ?_
                          refine op_v (v_assign rfl) rfl ?_
                          refine ops_nil ?_
                          refine post_next ?_
                          refine code_ret ?_
                          refine post_ret (rs := [.tmp 10]) rfl (List.Perm.refl _) (.cons (.tmp rfl) .nil) (List.nil_sublist _) ?_
                          exact ⟨rfl, rfl⟩
                      · have e12' : oppL x y = false := by simpa using e12
                        rw [e12']
                        first
                          | (refine op_want rfl rfl ?_
                             refine op_v (v_not rfl) rfl ?_)
                          | (refine op_skip rfl rfl (by simp [undef]) rfl ?_)
                        first
                          | (refine op_want rfl rfl ?_
                             refine op_v (v_move rfl) rfl ?_)
                          | (refine op_skip rfl rfl (by simp [undef]) rfl ?_)
                        first
                          | (refine op_want rfl rfl ?_
                             refine op_v (v_move rfl) rfl ?_)
                          | (refine op_skip rfl rfl (by simp [undef]) rfl ?_)
                        first
                          | (refine op_want rfl rfl ?_
                             refine op_v (v_move rfl) rfl ?_)
                          | (refine op_skip rfl rfl (by simp [undef]) rfl ?_)
                        first
                          | (refine op_want rfl rfl ?_
                             refine op_v (v_eqb (z := true) Try.underlying4 rfl rfl (by rw [litW_opp (w := w) (os := os) e12]; cases litW w os y <;> rfl)) rfl ?_)
                          | (refine op_skip rfl rfl (by simp [undef]) rfl ?_)
                        first
                          | (refine op_want rfl rfl ?_
                             first | refine op_v (v_pickt rfl rfl) rfl ?_ | refine op_v (v_pickf rfl rfl) rfl ?_ | refine op_v (v_pickb rfl rfl rfl) rfl ?_)
                          | (refine op_skip rfl rfl (by simp [undef]) rfl ?_)
                        first | refine op_v (v_pickt rfl rfl) rfl ?_ | refine op_v (v_pickf rfl rfl) rfl ?_ | refine op_v (v_pickb rfl rfl rfl) rfl ?_
                        refine op_v (v_move rfl) rfl ?_
                        first
                          | (refine op_want rfl rfl ?_
                             refine op_v (v_loadA ty27 rfl rfl) rfl ?_)
                          | (refine op_skip rfl rfl (by simp [undef]) rfl ?_)
                        first
                          | (refine op_want rfl rfl ?_
                             refine op_call pl27 rfl rfl ((LTrivial_does (ha0.mono Imm.leA) (by omega) (by omega))) Parts.none ?_
                             rintro _ I118 _ hI118 ⟨rfl, rfl⟩)
                          | (refine op_skip rfl rfl (by simp [undef]) rfl ?_)
                        by_cases e13 : x.l = x.r
                        · rw [show decide (x.l = x.r) = true by simpa using e13]
                          first
                            | (refine op_want rfl rfl ?_
                               refine op_v (v_not rfl) rfl ?_)
                            | (refine op_skip rfl rfl (by simp [undef]) rfl ?_)
                          first
                            | (refine op_want rfl rfl ?_
                               refine op_v (v_move rfl) rfl ?_)
                            | (refine op_skip rfl rfl (by simp [undef]) rfl ?_)
                          first
                            | (refine op_want rfl rfl ?_
                               refine op_v (v_move rfl) rfl ?_)
                            | (refine op_skip rfl rfl (by simp [undef]) rfl ?_)
                          first
                            | (refine op_want rfl rfl ?_
                               first | refine op_v (v_fieldB 0 Try.underlying27 rfl rfl fz4 rfl) rfl ?_ | refine op_v (v_fieldI 0 Try.underlying27 rfl rfl fz4 rfl (by assumption)) rfl ?_ | refine op_v (v_field Try.underlying27 rfl fz4 rfl rfl) rfl ?_)
                            | (refine op_skip rfl rfl (by simp [undef]) rfl ?_)
                          first
                            | (refine op_want rfl rfl ?_
                               refine op_v (v_loadA ty4 rfl rfl) rfl ?_)
                            | (refine op_skip rfl rfl (by simp [undef]) rfl ?_)
                          first
                            | (refine op_want rfl rfl ?_
                               refine op_v (v_not rfl) rfl ?_)
                            | (refine op_skip rfl rfl (by simp [undef]) rfl ?_)
                          first
                            | (refine op_want rfl rfl ?_
                               refine op_v (v_eqb (z := true) Try.underlying4 rfl rfl (by rw [litW_triv (w := w) (os := os) e13]; simp [cmpB])) rfl ?_)
                            | (refine op_skip rfl rfl (by simp [undef]) rfl ?_)
                          first
                            | (refine op_want rfl rfl ?_
                               first | refine op_v (v_pickt rfl rfl) rfl ?_ | refine op_v (v_pickf rfl rfl) rfl ?_ | refine op_v (v_pickb rfl rfl rfl) rfl ?_)
                            | (refine op_skip rfl rfl (by simp [undef]) rfl ?_)
                          first | refine op_v (v_pickt rfl rfl) rfl ?_ | refine op_v (v_pickf rfl rfl) rfl ?_ | refine op_v (v_pickb rfl rfl rfl) rfl ?_
                          refine op_v (v_assign rfl) rfl ?_
                          refine ops_nil ?_
                          refine post_next ?_
                          refine code_ret ?_
                          refine post_ret (rs := [.tmp 10]) rfl (List.Perm.refl _) (.cons (.tmp rfl) .nil) (List.nil_sublist _) ?_
                          exact ⟨rfl, rfl⟩
                        · rw [show decide (x.l = x.r) = false by simpa using e13]
                          first
                            | (refine op_want rfl rfl ?_
                               refine op_v (v_not rfl) rfl ?_)
                            | (refine op_skip rfl rfl (by simp [undef]) rfl ?_)
                          first
                            | (refine op_want rfl rfl ?_
                               refine op_v (v_move rfl) rfl ?_)
                            | (refine op_skip rfl rfl (by simp [undef]) rfl ?_)
                          first
                            | (refine op_want rfl rfl ?_
                               refine op_v (v_move rfl) rfl ?_)
                            | (refine op_skip rfl rfl (by simp [undef]) rfl ?_)
                          first
                            | (refine op_want rfl rfl ?_
                               first | refine op_v (v_fieldB 0 Try.underlying27 rfl rfl fz4 rfl) rfl ?_ | refine op_v (v_fieldI 0 Try.underlying27 rfl rfl fz4 rfl (by assumption)) rfl ?_ | refine op_v (v_field Try.underlying27 rfl fz4 rfl rfl) rfl ?_)
                            | (refine op_skip rfl rfl (by simp [undef]) rfl ?_)
                          first
                            | (refine op_want rfl rfl ?_
                               refine op_v (v_loadA ty4 rfl rfl) rfl ?_)
                            | (refine op_skip rfl rfl (by simp [undef]) rfl ?_)
                          first
                            | (refine op_want rfl rfl ?_
                               refine op_v (v_not rfl) rfl ?_)
                            | (refine op_skip rfl rfl (by simp [undef]) rfl ?_)
                          first
                            | (refine op_want rfl rfl ?_
                               refine op_v (v_eqb (z := true) Try.underlying4 rfl rfl (by rw [litW_triv (w := w) (os := os) e13]; simp [cmpB])) rfl ?_)
                            | (refine op_skip rfl rfl (by simp [undef]) rfl ?_)
                          first
                            | (refine op_want rfl rfl ?_
                               first | refine op_v (v_pickt rfl rfl) rfl ?_ | refine op_v (v_pickf rfl rfl) rfl ?_ | refine op_v (v_pickb rfl rfl rfl) rfl ?_)
                            | (refine op_skip rfl rfl (by simp [undef]) rfl ?_)
                          first | refine op_v (v_pickt rfl rfl) rfl ?_ | refine op_v (v_pickf rfl rfl) rfl ?_ | refine op_v (v_pickb rfl rfl rfl) rfl ?_
                          refine op_v (v_assign rfl) rfl ?_
                          refine ops_nil ?_
                          refine post_next ?_
                          refine code_ret ?_
                          refine post_ret (rs := [.tmp 10]) rfl (List.Perm.refl _) (.cons (.tmp rfl) .nil) (List.nil_sublist _) ?_
                          exact ⟨rfl, rfl⟩
            · have e6' : b39 = false := by simpa using e6
              subst e6'
              refine op_v (v_not rfl) rfl ?_
              refine op_v (v_move rfl) rfl ?_
              first
                | (refine op_want rfl rfl ?_
                   refine op_v (v_move rfl) rfl ?_)
                | (refine op_skip rfl rfl (by simp [undef]) rfl ?_)
              first
                | (refine op_want rfl rfl ?_
                   refine op_v (v_loadA ty27 rfl rfl) rfl ?_)
                | (refine op_skip rfl rfl (by simp [undef]) rfl ?_)
              first
                | (refine op_want rfl rfl ?_
                   refine op_call pl18 rfl rfl ((LCheck_does (hg.mono Imm.leA) (ha0.mono Imm.leA) (by omega) (by omega))) Parts.none ?_
                   rintro _ I44 _ hI44 ⟨rfl, rfl⟩)
                | (refine op_skip rfl rfl (by simp [undef]) rfl ?_)
              first
                | (refine op_want rfl rfl ?_
                   first | refine op_v (v_cmptA rfl rfl rfl) rfl ?_ | refine op_v (v_cmpfA rfl rfl rfl) rfl ?_ | refine op_v (v_cmp rfl rfl rfl) rfl ?_)
                | (refine op_skip rfl rfl (by simp [undef]) rfl ?_)
              first | refine op_v (v_pickt rfl rfl) rfl ?_ | refine op_v (v_pickf rfl rfl) rfl ?_ | refine op_v (v_pickb rfl rfl rfl) rfl ?_
              refine op_v (v_move rfl) rfl ?_
              first
                | (refine op_want rfl rfl ?_
                   refine op_v (v_move rfl) rfl ?_)
                | (refine op_skip rfl rfl (by simp [undef]) rfl ?_)
              first
                | (refine op_want rfl rfl ?_
                   refine op_v (v_loadA ty27 rfl rfl) rfl ?_)
                | (refine op_skip rfl rfl (by simp [undef]) rfl ?_)
              first
                | (refine op_want rfl rfl ?_
                   refine op_call pl18 rfl rfl ((LCheck_does (hg.mono Imm.leA) (hb0.mono Imm.leA) (by omega) (by omega))) Parts.none ?_
                   rintro _ I50 _ hI50 ⟨rfl, rfl⟩)
                | (refine op_skip rfl rfl (by simp [undef]) rfl ?_)
              first
                | (refine op_want rfl rfl ?_
                   first | refine op_v (v_cmptA rfl rfl rfl) rfl ?_ | refine op_v (v_cmpfA rfl rfl rfl) rfl ?_ | refine op_v (v_cmp rfl rfl rfl) rfl ?_)
                | (refine op_skip rfl rfl (by simp [undef]) rfl ?_)
              first | refine op_v (v_pickt rfl rfl) rfl ?_ | refine op_v (v_pickf rfl rfl) rfl ?_ | refine op_v (v_pickb rfl rfl rfl) rfl ?_
              refine ops_nil ?_
              refine post_next ?_
              refine code_cond_t rfl ?_
              refine code_seq ?_
              refine code_region ?_
              refine op_call pl17 rfl rfl ((awake9_does _)) Parts.none ?_
              rintro _ I53 _ hI53 ⟨rfl, rfl⟩
              refine op_v (v_assign rfl) rfl ?_
              refine ops_nil ?_
              refine post_next ?_
              refine code_ret ?_
              refine post_ret_then ?_
              refine post_ret (rs := [.tmp 10]) rfl (List.Perm.refl _) (.cons (.tmp rfl) .nil) (List.nil_sublist _) ?_
              exact ⟨rfl, rfl⟩
        · have e4' : fewL y = false := by simpa using e4
          rw [e4']
          first
            | (refine op_want rfl rfl ?_
               refine op_v (v_not rfl) rfl ?_)
            | (refine op_skip rfl rfl (by simp [undef]) rfl ?_)
          first | refine op_v (v_pickt rfl rfl) rfl ?_ | refine op_v (v_pickf rfl rfl) rfl ?_ | refine op_v (v_pickb rfl rfl rfl) rfl ?_
          refine op_v (v_move rfl) rfl ?_
          first
            | (refine op_want rfl rfl ?_
               refine op_v (v_move rfl) rfl ?_)
            | (refine op_skip rfl rfl (by simp [undef]) rfl ?_)
          first
            | (refine op_want rfl rfl ?_
               refine op_v (v_len Try.underlying42 rfl) rfl ?_)
            | (refine op_skip rfl rfl (by simp [undef]) rfl ?_)
          first
            | (refine op_want rfl rfl ?_
               first | refine op_v (v_cmptA rfl rfl rfl) rfl ?_ | refine op_v (v_cmpfA rfl rfl rfl) rfl ?_ | refine op_v (v_cmp rfl rfl rfl) rfl ?_)
            | (refine op_skip rfl rfl (by simp [undef]) rfl ?_)
          first | refine op_v (v_pickt rfl rfl) rfl ?_ | refine op_v (v_pickf rfl rfl) rfl ?_ | refine op_v (v_pickb rfl rfl rfl) rfl ?_
          refine ops_nil ?_
          refine post_next ?_
          refine code_cond_t rfl ?_
          refine code_seq ?_
          refine code_region ?_
          refine op_v (v_assign rfl) rfl ?_
          refine ops_nil ?_
          refine post_next ?_
          refine code_ret ?_
          refine post_ret_then ?_
          refine post_ret (rs := [.tmp 10]) rfl (List.Perm.refl _) (.cons (.tmp rfl) .nil) (List.nil_sublist _) ?_
          exact ⟨rfl, rfl⟩
      · have e3' : fewL x = false := by simpa using e3
        rw [e3']
        first
          | (refine op_want rfl rfl ?_
             refine op_v (v_not rfl) rfl ?_)
          | (refine op_skip rfl rfl (by simp [undef]) rfl ?_)
        first | refine op_v (v_pickt rfl rfl) rfl ?_ | refine op_v (v_pickf rfl rfl) rfl ?_ | refine op_v (v_pickb rfl rfl rfl) rfl ?_
        refine op_v (v_move rfl) rfl ?_
        first
          | (refine op_want rfl rfl ?_
             refine op_v (v_loadA ty27 rfl rfl) rfl ?_)
          | (refine op_skip rfl rfl (by simp [undef]) rfl ?_)
        first
          | (refine op_want rfl rfl ?_
             refine op_call pl15 rfl rfl ((FewL_does (hb0.mono Imm.leA))) Parts.none ?_
             rintro v29 I29 _ hI29 ⟨rfl, rfl⟩)
          | (refine op_skip rfl rfl (by simp [undef]) rfl ?_)
        first
          | (refine op_want rfl rfl ?_
             refine op_v (v_not rfl) rfl ?_)
          | (refine op_skip rfl rfl (by simp [undef]) rfl ?_)
        first | refine op_v (v_pickt rfl rfl) rfl ?_ | refine op_v (v_pickf rfl rfl) rfl ?_ | refine op_v (v_pickb rfl rfl rfl) rfl ?_
        refine op_v (v_move rfl) rfl ?_
        first
          | (refine op_want rfl rfl ?_
             refine op_v (v_move rfl) rfl ?_)
          | (refine op_skip rfl rfl (by simp [undef]) rfl ?_)
        first
          | (refine op_want rfl rfl ?_
             refine op_v (v_len Try.underlying42 rfl) rfl ?_)
          | (refine op_skip rfl rfl (by simp [undef]) rfl ?_)
        first
          | (refine op_want rfl rfl ?_
             first | refine op_v (v_cmptA rfl rfl rfl) rfl ?_ | refine op_v (v_cmpfA rfl rfl rfl) rfl ?_ | refine op_v (v_cmp rfl rfl rfl) rfl ?_)
          | (refine op_skip rfl rfl (by simp [undef]) rfl ?_)
        first | refine op_v (v_pickt rfl rfl) rfl ?_ | refine op_v (v_pickf rfl rfl) rfl ?_ | refine op_v (v_pickb rfl rfl rfl) rfl ?_
        refine ops_nil ?_
        refine post_next ?_
        refine code_cond_t rfl ?_
        refine code_seq ?_
        refine code_region ?_
        refine op_v (v_assign rfl) rfl ?_
        refine ops_nil ?_
        refine post_next ?_
        refine code_ret ?_
        refine post_ret_then ?_
        refine post_ret (rs := [.tmp 10]) rfl (List.Perm.refl _) (.cons (.tmp rfl) .nil) (List.nil_sublist _) ?_
        exact ⟨rfl, rfl⟩
    · have e2' : b19 = false := by simpa using e2
      subst e2'
      first
        | (refine op_want rfl rfl ?_
           refine op_v (v_not rfl) rfl ?_)
        | (refine op_skip rfl rfl (by simp [undef]) rfl ?_)
      first | refine op_v (v_pickt rfl rfl) rfl ?_ | refine op_v (v_pickf rfl rfl) rfl ?_ | refine op_v (v_pickb rfl rfl rfl) rfl ?_
      refine op_v (v_move rfl) rfl ?_
      first
        | (refine op_want rfl rfl ?_
           refine op_v (v_loadA ty27 rfl rfl) rfl ?_)
        | (refine op_skip rfl rfl (by simp [undef]) rfl ?_)
      first
        | (refine op_want rfl rfl ?_
           refine op_call pl15 rfl rfl ((FewL_does (ha0.mono Imm.leA))) Parts.none ?_
           rintro v24 I24 _ hI24 ⟨rfl, rfl⟩)
        | (refine op_skip rfl rfl (by simp [undef]) rfl ?_)
      first
        | (refine op_want rfl rfl ?_
           refine op_v (v_not rfl) rfl ?_)
        | (refine op_skip rfl rfl (by simp [undef]) rfl ?_)
      first | refine op_v (v_pickt rfl rfl) rfl ?_ | refine op_v (v_pickf rfl rfl) rfl ?_ | refine op_v (v_pickb rfl rfl rfl) rfl ?_
      refine op_v (v_move rfl) rfl ?_
      first
        | (refine op_want rfl rfl ?_
           refine op_v (v_loadA ty27 rfl rfl) rfl ?_)
        | (refine op_skip rfl rfl (by simp [undef]) rfl ?_)
      first
        | (refine op_want rfl rfl ?_
           refine op_call pl15 rfl rfl ((FewL_does (hb0.mono Imm.leA))) Parts.none ?_
           rintro v29 I29 _ hI29 ⟨rfl, rfl⟩)
        | (refine op_skip rfl rfl (by simp [undef]) rfl ?_)
      first
        | (refine op_want rfl rfl ?_
           refine op_v (v_not rfl) rfl ?_)
        | (refine op_skip rfl rfl (by simp [undef]) rfl ?_)
      first | refine op_v (v_pickt rfl rfl) rfl ?_ | refine op_v (v_pickf rfl rfl) rfl ?_ | refine op_v (v_pickb rfl rfl rfl) rfl ?_
      refine op_v (v_move rfl) rfl ?_
      first
        | (refine op_want rfl rfl ?_
           refine op_v (v_move rfl) rfl ?_)
        | (refine op_skip rfl rfl (by simp [undef]) rfl ?_)
      first
        | (refine op_want rfl rfl ?_
           refine op_v (v_len Try.underlying42 rfl) rfl ?_)
        | (refine op_skip rfl rfl (by simp [undef]) rfl ?_)
      first
        | (refine op_want rfl rfl ?_
           first | refine op_v (v_cmptA rfl rfl rfl) rfl ?_ | refine op_v (v_cmpfA rfl rfl rfl) rfl ?_ | refine op_v (v_cmp rfl rfl rfl) rfl ?_)
        | (refine op_skip rfl rfl (by simp [undef]) rfl ?_)
      first | refine op_v (v_pickt rfl rfl) rfl ?_ | refine op_v (v_pickf rfl rfl) rfl ?_ | refine op_v (v_pickb rfl rfl rfl) rfl ?_
      refine ops_nil ?_
      refine post_next ?_
      refine code_cond_t rfl ?_
      refine code_seq ?_
      refine code_region ?_
      refine op_v (v_assign rfl) rfl ?_
      refine ops_nil ?_
      refine post_next ?_
      refine code_ret ?_
      refine post_ret_then ?_
      refine post_ret (rs := [.tmp 10]) rfl (List.Perm.refl _) (.cons (.tmp rfl) .nil) (List.nil_sublist _) ?_
      exact ⟨rfl, rfl⟩
  · have e1' : fewG gs = false := by simpa using e1
    rw [e1']
    refine op_v (v_not rfl) rfl ?_
    refine op_v (v_move rfl) rfl ?_
    first
      | (refine op_want rfl rfl ?_
         refine op_v (v_loadA ty41 rfl rfl) rfl ?_)
      | (refine op_skip rfl rfl (by simp [undef]) rfl ?_)
    first
      | (refine op_want rfl rfl ?_
         refine op_call pl22 rfl rfl ((WFew_does (hw0.mono Imm.leA))) Parts.none ?_
         rintro v19 I19 _ hI19 ⟨⟨b19, rfl⟩, rfl⟩)
      | (refine op_skip rfl rfl (by simp [undef]) rfl ?_)
    first
      | (refine op_want rfl rfl ?_
         refine op_v (v_not rfl) rfl ?_)
      | (refine op_skip rfl rfl (by simp [undef]) rfl ?_)
    first | refine op_v (v_pickt rfl rfl) rfl ?_ | refine op_v (v_pickf rfl rfl) rfl ?_ | refine op_v (v_pickb rfl rfl rfl) rfl ?_
    refine op_v (v_move rfl) rfl ?_
    first
      | (refine op_want rfl rfl ?_
         refine op_v (v_loadA ty27 rfl rfl) rfl ?_)
      | (refine op_skip rfl rfl (by simp [undef]) rfl ?_)
    first
      | (refine op_want rfl rfl ?_
         refine op_call pl15 rfl rfl ((FewL_does (ha0.mono Imm.leA))) Parts.none ?_
         rintro v24 I24 _ hI24 ⟨rfl, rfl⟩)
      | (refine op_skip rfl rfl (by simp [undef]) rfl ?_)
    first
      | (refine op_want rfl rfl ?_
         refine op_v (v_not rfl) rfl ?_)
      | (refine op_skip rfl rfl (by simp [undef]) rfl ?_)
    first | refine op_v (v_pickt rfl rfl) rfl ?_ | refine op_v (v_pickf rfl rfl) rfl ?_ | refine op_v (v_pickb rfl rfl rfl) rfl ?_
    refine op_v (v_move rfl) rfl ?_
    first
      | (refine op_want rfl rfl ?_
         refine op_v (v_loadA ty27 rfl rfl) rfl ?_)
      | (refine op_skip rfl rfl (by simp [undef]) rfl ?_)
    first
      | (refine op_want rfl rfl ?_
         refine op_call pl15 rfl rfl ((FewL_does (hb0.mono Imm.leA))) Parts.none ?_
         rintro v29 I29 _ hI29 ⟨rfl, rfl⟩)
      | (refine op_skip rfl rfl (by simp [undef]) rfl ?_)
    first
      | (refine op_want rfl rfl ?_
         refine op_v (v_not rfl) rfl ?_)
      | (refine op_skip rfl rfl (by simp [undef]) rfl ?_)
    first | refine op_v (v_pickt rfl rfl) rfl ?_ | refine op_v (v_pickf rfl rfl) rfl ?_ | refine op_v (v_pickb rfl rfl rfl) rfl ?_
    refine op_v (v_move rfl) rfl ?_
    first
      | (refine op_want rfl rfl ?_
         refine op_v (v_move rfl) rfl ?_)
      | (refine op_skip rfl rfl (by simp [undef]) rfl ?_)
    first
      | (refine op_want rfl rfl ?_
         refine op_v (v_len Try.underlying42 rfl) rfl ?_)
      | (refine op_skip rfl rfl (by simp [undef]) rfl ?_)
    first
      | (refine op_want rfl rfl ?_
         first | refine op_v (v_cmptA rfl rfl rfl) rfl ?_ | refine op_v (v_cmpfA rfl rfl rfl) rfl ?_ | refine op_v (v_cmp rfl rfl rfl) rfl ?_)
      | (refine op_skip rfl rfl (by simp [undef]) rfl ?_)
    first | refine op_v (v_pickt rfl rfl) rfl ?_ | refine op_v (v_pickf rfl rfl) rfl ?_ | refine op_v (v_pickb rfl rfl rfl) rfl ?_
    refine ops_nil ?_
    refine post_next ?_
    refine code_cond_t rfl ?_
    refine code_seq ?_
    refine code_region ?_
    refine op_v (v_assign rfl) rfl ?_
    refine ops_nil ?_
    refine post_next ?_
    refine code_ret ?_
    refine post_ret_then ?_
    refine post_ret (rs := [.tmp 10]) rfl (List.Perm.refl _) (.cons (.tmp rfl) .nil) (List.nil_sublist _) ?_
    exact ⟨rfl, rfl⟩
end Go.Proofs.Ytegceppoioeeaaa
