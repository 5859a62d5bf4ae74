/- Own texts, one behind the other: rules of a small program logic, walks through the program's functions, plain facts. No condition. -/
import Derived.Test.YtdbadicpbmndbaaZ3
import Derived.WalkKit
import Derived.ProofKit
import Derived.OpenShut
import Derived.ShutString
import Derived.ChangeOld
import Derived.ChangeSlices
import Derived.Below
import Derived.Carry
import Derived.SizedLaws
/- Walks: the document's answers: can literals be as some of a clause that are free. -/
set_option linter.unusedVariables false
set_option linter.unusedSimpArgs false
set_option linter.unnecessarySimpa false
/- short -/
namespace Go.Proofs.Ytdbadicpbmndbaa
open Go Lg

theorem Lg.CodeJ.freezeRow {C : Ctx} {Q : Exit → Act → World → Prop} {σ : Env} {ds : List Nat} {I : Imm} {δ : List Ent} {cd : Code} {v : Value} {e : TypeId} {size n : Nat} {xs : List Value} {δ' : List Ent} (hd : Del δ (.row v e size n xs) δ')
    (h : ∀ I' ad cap, I.le I' → v = .slice ad n cap → n ≤ cap → xs.length = n * size → Cells I' ad xs → CodeJ C cd Q σ ds I' δ') : CodeJ C cd Q σ ds I δ := by
  intro a w he hs ht
  have h1 := hs.perm hd.perm
  have t1 := ht.permR hd.perm
  obtain ⟨hl, hx⟩ : w.ownsRow 0 e size v n xs := h1.ents _ (List.mem_cons_self ..)
  rcases hx with ⟨rfl, rfl⟩ | ⟨g, cap, cur, rfl, _, hh, hnc, _, hcs, htk⟩
  · obtain ⟨s2, t2⟩ := h1.drop
    have hnil : xs = [] := List.eq_nil_of_length_eq_zero (by omega)
    subst hnil
    exact h I none 0 (Imm.le_refl _) rfl (Nat.le_refl _) hl (fun j v hj => by simp at hj) a w he s2 (t1.trans t2)
  · obtain ⟨s2, t2, hle⟩ := h1.freeze (b := g) rfl hh
    refine h (I.ins g _) (some ⟨g, 0, none⟩) cap hle rfl hnc hl (fun j v hj => ?_) a w he s2 (t1.trans t2)
    have hadd : (⟨g, 0, none⟩ : Addr).add j = ⟨g, j, none⟩ := by unfold Addr.add; split <;> simp_all
    have hjn : j < n * size := by rw [← hl]; exact (List.getElem?_eq_some_iff.1 hj).1
    rw [← htk] at hj
    rw [List.getElem?_take_of_lt hjn] at hj
    simp only [Option.map_some, Imm.cellO, Imm.cell, hadd, Imm.ins, if_true]
    simpa using hj
def BoE : Elt 1 Bool where
  R := fun I b vs => vs = [.bool b]
  len := by rintro I a vs rfl; rfl
  one := by
    rintro I a vs rfl u hu
    simp only [List.mem_cons, List.not_mem_nil, or_false] at hu
    subst hu; rfl
  mono := by rintro I J a vs hl rfl; rfl
theorem rowBo {I : Imm} : ∀ us : List Bool, RowE BoE I (us.map Value.bool) us
  | [] => rfl
  | u :: r => ⟨[.bool u], r.map Value.bool, rfl, rfl, rowBo r⟩
theorem RAllT_does {I : Imm} {v : Value} {ts : List T} (hv : RepS I v ts) (hbig : ∀ t ∈ ts, t.size ≤ 1000000000) :
    Does Try.prog 38 [v] I [] (fun v I' δ' => v = .bool (!ts.any badT) ∧ δ' = []) := by
  obtain ⟨ad, c, ss, xs, rfl, hc, hr, hb, he⟩ := hv.rowP
  refine Does.intro Try.func38 rfl Try.ntmps38 rfl fun w0 => ?_
  refine code_seq ?_
  refine code_region ?_
  refine op_v (v_assign rfl) rfl ?_
  refine ops_nil ?_
  refine post_next ?_
  refine code_seq ?_
  refine code_seq ?_
  refine code_region ?_
  refine op_v (v_assign rfl) rfl ?_
  refine ops_nil ?_
  refine post_next ?_
  refine code_block ?_
  refine code_loop (fun m σ' I' δ' => ∃ k : Nat, m = ts.length - k ∧ k ≤ ts.length ∧ σ' = [(0, .slice ad ts.length c), (3, .int .i64 k)] ∧ I.le I' ∧ δ' = [] ∧ ∀ j (h : j < ts.length), j < k → badT ts[j] = false) ts.length [(0, .slice ad ts.length c), (3, .int .i64 (0 : Nat))] ⟨0, rfl, Nat.zero_le _, rfl, Imm.le_refl _, rfl, fun j _ h => by omega⟩ ⟨rfl, rfl, trivial⟩ ?_
  rintro m _ I0 _ ⟨k, rfl, hk, rfl, hI0, rfl, hp⟩
  refine code_seq ?_
  refine code_seq ?_
  refine code_region ?_
  refine op_v (v_move rfl) rfl ?_
  refine op_v (v_move rfl) rfl ?_
  refine op_v (v_len Try.underlying45 rfl) rfl ?_
  refine op_v (v_cmp rfl rfl rfl) rfl ?_
  refine ops_nil ?_
  refine post_next ?_
  refine code_cond rfl (fun hc0 => ?_) (fun hc0 => ?_)
  · have hlt : k < ts.length := by simpa using hc0
    obtain ⟨hat, hrt⟩ := he k hlt
    have hs1 := hat.isSome
    refine code_skip ?_
    refine post_next ?_
    refine code_seq ?_
    refine code_block ?_
    refine code_seq ?_
    refine code_region ?_
    refine op_v (v_move rfl) rfl ?_
    refine op_v (v_move rfl) rfl ?_
    refine op_v (v_indexA Try.underlying45 sz47 rfl rfl) rfl ?_
    refine op_v (v_loadI0 ty47 (hat.mono hI0) rfl rfl rfl) rfl ?_
    refine op_call pl87 rfl rfl ((RRight1_does (hrt.mono hI0) (hbig _ (List.getElem_mem _)))) Parts.none ?_
    rintro v14 I14 _ hI14 ⟨rfl, rfl⟩
    by_cases h15 : chkT ts[k] = 0
    · rw [show decide (chkT ts[k] = 0) = true by simpa using h15]
      have hbk : badT ts[k] = false := by unfold badT; simp [h15]
      refine op_v (v_not rfl) rfl ?_
      refine ops_nil ?_
      refine post_next ?_
      refine code_cond_f rfl ?_
      refine code_skip ?_
      refine post_out ?_
      refine post_next ?_
      refine code_region ?_
      refine op_v (v_move rfl) rfl ?_
      refine op_v (v_addb rfl rfl rfl (by omega)) rfl ?_
      refine op_v (v_assign rfl) rfl ?_
      refine ops_nil ?_
      refine post_again (ts.length - (k + 1)) [(0, .slice ad ts.length c), (3, .int .i64 (k + 1 : Nat))] (by omega) ⟨k + 1, rfl, hlt, rfl, Imm.leA, rfl, fun j h hj => ?_⟩ ⟨rfl, rfl, trivial⟩
      rcases Nat.lt_or_ge j k with q | q
      · exact hp j h q
      · have e : j = k := by omega
        subst e; exact hbk
    · rw [show decide (chkT ts[k] = 0) = false by simpa using h15]
      have hbk : badT ts[k] = true := by unfold badT; simp [h15]
      refine op_v (v_not rfl) rfl ?_
      refine ops_nil ?_
      refine post_next ?_
      refine code_cond_t rfl ?_
      refine code_seq ?_
      refine code_region ?_
      refine op_v (v_assign rfl) rfl ?_
      refine ops_nil ?_
      refine post_next ?_
      refine code_ret ?_
      refine post_ret_block ?_
      refine post_ret_then ?_
      refine post_ret_then ?_
      refine post_ret_block ?_
      refine post_ret_then ?_
      refine post_ret (rs := [.tmp 2]) rfl (List.Perm.refl _) (.cons (.tmp rfl) .nil) (List.nil_sublist _) ?_
      exact ⟨by rw [show ts.any badT = true from List.any_eq_true.2 ⟨_, List.getElem_mem hlt, hbk⟩]; rfl, rfl⟩
  · have hge : k = ts.length := by simp at hc0; omega
    refine code_exit ?_
    refine post_exit_then ?_
    refine post_exit_then ?_
    refine post_exit ?_
    refine post_next ?_
    refine code_seq ?_
    refine code_region ?_
    refine op_v (v_assign rfl) rfl ?_
    refine ops_nil ?_
    refine post_next ?_
    refine code_ret ?_
    refine post_ret (rs := [.tmp 2]) rfl (List.Perm.refl _) (.cons (.tmp rfl) .nil) (List.nil_sublist _) ?_
    exact ⟨by rw [show ts.any badT = false from List.any_eq_false.2 fun t ht => by obtain ⟨j, hj, rfl⟩ := List.getElem_of_mem ht; rw [hp j hj (by omega)]; simp]; rfl, rfl⟩
theorem Rwrong15_does {I : Imm} {vc vd : Value} {c d : List Li} (hc : RepC I vc c) (hd : RepC I vd d) (hsc : SmC c) (hsd : SmC d) :
    Does Try.prog 70 [vc, vd] I [] (fun v I' δ' => v = .int .i64 (wrE c d) ∧ δ' = []) := by
  obtain ⟨ca, cc, hsh⟩ := RepE.shape hc
  subst hsh
  obtain ⟨da, dc, hsh⟩ := RepE.shape hd
  subst hsh
  have hbC := hc.small
  have hbD := hd.small
  have hsides : ∀ {c : List Li}, SmC c → ∀ t ∈ sidesL c, t.size ≤ 1000000000 := fun h t ht => by
    obtain ⟨x, hx, e⟩ := List.mem_flatMap.1 ht
    simp at e
    rcases e with rfl | rfl
    · exact (h x hx).1
    · exact (h x hx).2
  refine Does.intro Try.func70 rfl Try.ntmps70 rfl fun w0 => ?_
  refine code_seq ?_
  refine code_region ?_
  refine op_v (v_assign rfl) rfl ?_
  refine ops_nil ?_
  refine post_next ?_
  refine code_seq ?_
  refine code_seq ?_
  refine code_region ?_
  refine op_v (v_move rfl) rfl ?_
  refine op_v (v_len Try.underlying26 rfl) rfl ?_
  by_cases h7 : 32 < c.length
  · refine op_v (v_cmpt rfl rfl rfl (by omega)) rfl ?_
    refine op_v (v_move rfl) rfl ?_
    refine op_skip rfl rfl (by simp [undef]) rfl ?_
    refine op_skip rfl rfl (by simp [undef]) rfl ?_
    refine op_skip rfl rfl (by simp [undef]) rfl ?_
    refine op_v (v_pickt rfl rfl) rfl ?_
    refine ops_nil ?_
    refine post_next ?_
    refine code_cond_t rfl ?_
    refine code_seq ?_
    refine code_region ?_
    refine op_v (v_assign rfl) rfl ?_
    refine ops_nil ?_
    refine post_next ?_
    refine code_ret ?_
    refine post_ret_then ?_
    refine post_ret (rs := [.tmp 4]) rfl (List.Perm.refl _) (.cons (.tmp rfl) .nil) (List.nil_sublist _) ?_
    exact ⟨by unfold wrE; rw [if_pos (.inl h7)]; rfl, rfl⟩
  · refine op_v (v_cmpf rfl rfl rfl (by omega)) rfl ?_
    refine op_v (v_move rfl) rfl ?_
    refine op_want rfl rfl ?_
    refine op_v (v_move rfl) rfl ?_
    refine op_want rfl rfl ?_
    refine op_v (v_len Try.underlying26 rfl) rfl ?_
    by_cases h11 : 32 < d.length
    · refine op_want rfl rfl ?_
      refine op_v (v_cmpt rfl rfl rfl (by omega)) rfl ?_
      refine op_v (v_pickf rfl rfl) rfl ?_
      refine ops_nil ?_
      refine post_next ?_
      refine code_cond_t rfl ?_
      refine code_seq ?_
      refine code_region ?_
      refine op_v (v_assign rfl) rfl ?_
      refine ops_nil ?_
      refine post_next ?_
      refine code_ret ?_
      refine post_ret_then ?_
      refine post_ret (rs := [.tmp 4]) rfl (List.Perm.refl _) (.cons (.tmp rfl) .nil) (List.nil_sublist _) ?_
      exact ⟨by unfold wrE; rw [if_pos (.inr h11)]; rfl, rfl⟩
    · refine op_want rfl rfl ?_
      refine op_v (v_cmpf rfl rfl rfl (by omega)) rfl ?_
      refine op_v (v_pickf rfl rfl) rfl ?_
      refine ops_nil ?_
      refine post_next ?_
      refine code_cond_f rfl ?_
      refine code_skip ?_
      refine post_next ?_
      refine code_seq ?_
      refine code_seq ?_
      refine code_region ?_
      refine op_v (v_move rfl) rfl ?_
      refine op_call pl39 rfl rfl ((Terms_does hc)) Parts.none ?_
      rintro v14 I14 _ hI14 ⟨hs14, rfl⟩
      refine op_call pl38 rfl rfl ((RAllT_does hs14 (hsides hsc))) Parts.none ?_
      rintro v15 I15 _ hI15 ⟨rfl, rfl⟩
      by_cases h16 : (sidesL c).any badT = true
      · have hE : wrE c d = 1 := by unfold wrE; rw [if_neg (by omega), if_pos (.inl h16)]
        rw [h16, hE]
        refine op_v (v_not rfl) rfl ?_
        refine op_v (v_move rfl) rfl ?_
        refine op_skip rfl rfl (by simp [undef]) rfl ?_
        refine op_skip rfl rfl (by simp [undef]) rfl ?_
        refine op_skip rfl rfl (by simp [undef]) rfl ?_
        refine op_skip rfl rfl (by simp [undef]) rfl ?_
        refine op_v (v_pickt rfl rfl) rfl ?_
        refine ops_nil ?_
        refine post_next ?_
        refine code_cond_t rfl ?_
        refine code_seq ?_
        refine code_region ?_
        refine op_v (v_assign rfl) rfl ?_
        refine ops_nil ?_
        refine post_next ?_
        refine code_ret ?_
        refine post_ret_then ?_
        refine post_ret (rs := [.tmp 4]) rfl (List.Perm.refl _) (.cons (.tmp rfl) .nil) (List.nil_sublist _) ?_
        exact ⟨rfl, rfl⟩
      · have h16' : (sidesL c).any badT = false := by simpa using h16
        rw [h16']
        refine op_v (v_not rfl) rfl ?_
        refine op_v (v_move rfl) rfl ?_
        refine op_want rfl rfl ?_
        refine op_v (v_move rfl) rfl ?_
        refine op_want rfl rfl ?_
        refine op_call pl39 rfl rfl ((Terms_does (hd.mono Imm.leA))) Parts.none ?_
        rintro v19 I19 _ hI19 ⟨hs19, rfl⟩
        refine op_want rfl rfl ?_
        refine op_call pl38 rfl rfl ((RAllT_does hs19 (hsides hsd))) Parts.none ?_
        rintro v20 I20 _ hI20 ⟨rfl, rfl⟩
        by_cases h21 : (sidesL d).any badT = true
        · have hE : wrE c d = 1 := by unfold wrE; rw [if_neg (by omega), if_pos (.inr h21)]
          rw [h21, hE]
          refine op_want rfl rfl ?_
          refine op_v (v_not rfl) rfl ?_
          refine op_v (v_pickf rfl rfl) rfl ?_
          refine ops_nil ?_
          refine post_next ?_
          refine code_cond_t rfl ?_
          refine code_seq ?_
          refine code_region ?_
          refine op_v (v_assign rfl) rfl ?_
          refine ops_nil ?_
          refine post_next ?_
          refine code_ret ?_
          refine post_ret_then ?_
          refine post_ret (rs := [.tmp 4]) rfl (List.Perm.refl _) (.cons (.tmp rfl) .nil) (List.nil_sublist _) ?_
          exact ⟨rfl, rfl⟩
        · have h21' : (sidesL d).any badT = false := by simpa using h21
          have hE : wrE c d = 0 := wrE_zero (by omega) (by omega) h16' h21'
          rw [h21', hE]
          refine op_want rfl rfl ?_
          refine op_v (v_not rfl) rfl ?_
          refine op_v (v_pickf rfl rfl) rfl ?_
          refine ops_nil ?_
          refine post_next ?_
          refine code_cond_f rfl ?_
          refine code_skip ?_
          refine post_next ?_
          refine code_seq ?_
          refine code_region ?_
          refine op_v (v_assign rfl) rfl ?_
          refine ops_nil ?_
          refine post_next ?_
          refine code_ret ?_
          refine post_ret (rs := [.tmp 4]) rfl (List.Perm.refl _) (.cons (.tmp rfl) .nil) (List.nil_sublist _) ?_
          exact ⟨rfl, rfl⟩
theorem ext_set {us ws : List Bool} {k : Nat} (hl : ws.length = us.length) (h : ∀ m, m < us.length → ws[m]? = (us.set k true)[m]?) : ws = us.set k true := by
  refine List.ext_getElem? fun m => ?_
  by_cases q : m < us.length
  · exact h m q
  · rw [List.getElem?_eq_none (by omega), List.getElem?_eq_none (by rw [List.length_set]; omega)]
theorem fill_next {us ws : List Bool} {k n : Nat} {b : Bool} (hn : n < ws.length) (h : ∀ m, m < n → ws[m]? = (us.set k true)[m]?) (hb : (us.set k true)[n]? = some b) : ∀ m, m < n + 1 → (ws.set n b)[m]? = (us.set k true)[m]? := fun m hm => by
  rcases Nat.lt_or_ge m n with q | q
  · rw [List.getElem?_set_ne (by omega)]; exact h m q
  · have e : m = n := by omega
    subst e
    rw [List.getElem?_set_self hn, hb]
abbrev bsRow (g n : Nat) (ws : List Bool) : Ent := .row (.slice (some ⟨g, 0, none⟩) n n) 4 1 n (ws.map Value.bool)
theorem match_does {d : List Li} {da : Option Addr} {dc : Nat} (hsd : SmM d) : ∀ (c : List Li), SmM c → ∀ (us : List Bool) (I : Imm) (vc vu vs : Value) (bs : List Bi), us.length = d.length → RepC I vc c → RepC I (.slice da d.length dc) d → RepE BoE I vu us → RepB I vs bs → SmB bs → bs.length + c.length * 2000000 ≤ 500000000 →
    Does Try.prog 71 [vc, .slice da d.length dc, vu, vs] I [] (fun v I' δ' => (∃ q, v = .bool q ∧ (q = true ↔ SubB bs d us c)) ∧ δ' = []) := by
  intro c
  induction c with
  | nil =>
    intro hsc us I vc vu vs bs hul hc hd hu hs hsb hbl
    obtain ⟨ca, cc, hsh⟩ := RepE.shape hc
    subst hsh
    refine Does.intro Try.func71 rfl Try.ntmps71 rfl fun w0 => ?_
    refine code_seq ?_
    refine code_region ?_
    refine op_v (v_assign rfl) rfl ?_
    refine ops_nil ?_
    refine post_next ?_
    refine code_seq ?_
    refine code_seq ?_
    refine code_region ?_
    refine op_v (v_move rfl) rfl ?_
    refine op_v (v_len Try.underlying26 rfl) rfl ?_
    refine op_v (v_cmpt rfl rfl rfl (by simp)) rfl ?_
    refine ops_nil ?_
    refine post_next ?_
    refine code_cond_t rfl ?_
    refine code_seq ?_
    refine code_region ?_
    refine op_v (v_assign rfl) rfl ?_
    refine ops_nil ?_
    refine post_next ?_
    refine code_ret ?_
    refine post_ret_then ?_
    refine post_ret (rs := [.tmp 8]) rfl (List.Perm.refl _) (.cons (.tmp rfl) .nil) (List.nil_sublist _) ?_
    exact ⟨⟨true, rfl, by simp only [true_iff]; exact SubB_nil⟩, rfl⟩
  | cons a r ih =>
    intro hsc us I vc vu vs bs hul hc hd hu hs hsb hbl
    have hsa := hsc a (List.mem_cons_self ..)
    have hsr : SmM r := fun x hx => hsc x (List.mem_cons_of_mem _ hx)
    obtain ⟨ca, cc, xc, hsh, hcc, hcb, hcellc, hrowc⟩ := id hc
    subst hsh
    obtain ⟨_, _, xd, hq, hdc, hdb, hcelld, hrowd⟩ := id hd
    cases hq
    obtain ⟨ua, uc, xu, hsh, huc, hub, hcellu, hrowu⟩ := id hu
    subst hsh
    obtain ⟨sA, sC, hsh⟩ := hs.shape
    subst hsh
    have hcl : (a :: r).length = r.length + 1 := rfl
    rw [hcl, Nat.succ_mul] at hbl
    have hm1 : 1 ≤ (a :: r).length := by simp
    have hr1 : RepC I (.slice (cutAt ca cc 1 5) ((a :: r).length - 1) (cc - 1)) r := RepE.dropR (k := 1) hcc hcb hcellc hrowc (by simp)
    obtain ⟨va, ⟨pa, pc, qa, qc, rfl, hpl, hpr⟩, hatc⟩ := hrowc.cellsAt hcellc (i := 0) (by simp)
    rw [List.getElem_cons_zero] at hpl hpr hatc
    have hs0 := hatc.isSome
    refine Does.intro Try.func71 rfl Try.ntmps71 rfl fun w0 => ?_
    refine code_seq ?_
    refine code_region ?_
    refine op_v (v_assign rfl) rfl ?_
    refine ops_nil ?_
    refine post_next ?_
    refine code_seq ?_
    refine code_seq ?_
    refine code_region ?_
    refine op_v (v_move rfl) rfl ?_
    refine op_v (v_len Try.underlying26 rfl) rfl ?_
    refine op_v (v_cmpf rfl rfl rfl (by simp; omega)) rfl ?_
    refine ops_nil ?_
    refine post_next ?_
    refine code_cond_f rfl ?_
    refine code_skip ?_
    refine post_next ?_
    refine code_seq ?_
    refine code_seq ?_
    refine code_region ?_
    refine op_v (v_assign rfl) rfl ?_
    refine ops_nil ?_
    refine post_next ?_
    refine code_block ?_
    refine code_loop (fun m σ' I' δ' => ∃ k : Nat, m = d.length - k ∧ k ≤ d.length ∧ σ' = [(0, .slice ca (a :: r).length cc), (1, .slice da d.length dc), (2, .slice ua us.length uc), (3, .slice sA bs.length sC), (9, .int .i64 k)] ∧ I.le I' ∧ δ' = [] ∧ ∀ j, j < k → ¬ SubK bs d us a r j) d.length [(0, .slice ca (a :: r).length cc), (1, .slice da d.length dc), (2, .slice ua us.length uc), (3, .slice sA bs.length sC), (9, .int .i64 (0 : Nat))] ⟨0, rfl, Nat.zero_le _, rfl, Imm.le_refl _, rfl, fun j h => by omega⟩ ⟨rfl, rfl, rfl, rfl, rfl, trivial⟩ ?_
    rintro m _ I0 _ ⟨k, rfl, hk, rfl, hI0, rfl, hno⟩
    refine code_seq ?_
    refine code_seq ?_
    refine code_region ?_
    refine op_v (v_move rfl) rfl ?_
    refine op_v (v_move rfl) rfl ?_
    refine op_v (v_len Try.underlying26 rfl) rfl ?_
    refine op_v (v_cmp rfl rfl rfl) rfl ?_
    refine ops_nil ?_
    refine post_next ?_
    refine code_cond rfl (fun hc1 => ?_) (fun hc1 => ?_)
    · have hlt : k < d.length := by simpa using hc1
      obtain ⟨vd, ⟨la, lc, ra, rc, rfl, hll, hlr⟩, hatd⟩ := hrowd.cellsAt hcelld hlt
      have hs1 := hatd.isSome
      have hsk := hsd _ (List.getElem_mem hlt)
      have hku : k < us.length := by omega
      obtain ⟨_, rfl, hatu⟩ := hrowu.cellsAt hcellu hku
      have hs2 := hatu.isSome
      have hnext : ¬ SubK bs d us a r k → ∀ j, j < k + 1 → ¬ SubK bs d us a r j := fun h j hj => by
        rcases Nat.lt_or_ge j k with q | q
        · exact hno j q
        · have e : j = k := by omega
          subst e; exact h
      refine code_skip ?_
      refine post_next ?_
      refine code_seq ?_
      refine code_block ?_
      refine code_seq ?_
      refine code_seq ?_
      refine code_draw (.fl 0 (.fl 1 (.fl 2 (.fl 3 (.fl 4 (.fl 5 (.fl 6 (.fl 7 (.fl 8 (.fl 9 (.fl 10 (.fl 11 (.fl 12 (.fl 13 (.fl 14 (.fl 15 .done)))))))))))))))) (fun _ => _) mixed (by kernel_rfl) (by kernel_rfl) (fun _ => (List.Sublist.refl _)) ?_
      refine e_fl rfl rfl (fun hs_ => PF.mk rfl (v_move rfl) hs_) ?_
      refine e_fl rfl rfl (fun hs_ => PF.mk rfl (v_move rfl) hs_) ?_
      refine e_fl rfl rfl (fun hs_ => PF.mk rfl (v_indexA Try.underlying82 sz4 rfl rfl) hs_) ?_
      refine e_fl rfl rfl (fun hs_ => PF.mk rfl (v_loadI0 ty4 (hatu.mono hI0) rfl rfl rfl) hs_) ?_
      by_cases h30 : us[k] = true
      · rw [h30]
        have hbad : ¬ SubK bs d us a r k := fun ⟨_, h2, _⟩ => by rw [List.getElem?_eq_getElem hku, h30] at h2; cases h2
        refine e_fl rfl rfl (fun hs_ => PF.mk rfl (v_move rfl) hs_) ?_
        refine e_fl rfl rfl (fun hs_ => PF.mks rfl (by intro c hc; cases hc) rfl rfl (by simp [undef]) hs_) ?_
        refine e_fl rfl rfl (fun hs_ => PF.mks rfl (by intro c hc; cases hc) rfl rfl (by simp [undef]) hs_) ?_
        refine e_fl rfl rfl (fun hs_ => PF.mks rfl (by intro c hc; cases hc) rfl rfl (by simp [undef]) hs_) ?_
        refine e_fl rfl rfl (fun hs_ => PF.mks rfl (by intro c hc; cases hc) rfl rfl (by simp [undef]) hs_) ?_
        refine e_fl rfl rfl (fun hs_ => PF.mks rfl (by intro c hc; cases hc) rfl rfl (by simp [undef]) hs_) ?_
        refine e_fl rfl rfl (fun hs_ => PF.mks rfl (by intro c hc; cases hc) rfl rfl (by simp [undef]) hs_) ?_
        refine e_fl rfl rfl (fun hs_ => PF.mks rfl (by intro c hc; cases hc) rfl rfl (by simp [undef]) hs_) ?_
        refine e_fl rfl rfl (fun hs_ => PF.mks rfl (by intro c hc; cases hc) rfl rfl (by simp [undef]) hs_) ?_
        refine e_fl rfl rfl (fun hs_ => PF.mks rfl (by intro c hc; cases hc) rfl rfl (by simp [undef]) hs_) ?_
        refine e_fl rfl rfl (fun hs_ => PF.mks rfl (by intro c hc; cases hc) rfl rfl (by simp [undef]) hs_) ?_
        refine e_fl rfl rfl (fun hs_ => PF.mk rfl (v_pickt rfl rfl) hs_) ?_
        refine e_done ?_
        refine post_next ?_
        refine code_cond_t rfl ?_
        refine code_exit ?_
        refine post_exit_then ?_
        refine post_exit ?_
        refine post_next ?_
        refine code_region ?_
        refine op_v (v_move rfl) rfl ?_
        refine op_v (v_addb rfl rfl rfl (by omega)) rfl ?_
        refine op_v (v_assign rfl) rfl ?_
        refine ops_nil ?_
        refine post_again (d.length - (k + 1)) [(0, .slice ca (a :: r).length cc), (1, .slice da d.length dc), (2, .slice ua us.length uc), (3, .slice sA bs.length sC), (9, .int .i64 (k + 1 : Nat))] (by omega) ⟨k + 1, rfl, hlt, rfl, Imm.leA, rfl, hnext hbad⟩ ⟨rfl, rfl, rfl, rfl, rfl, trivial⟩
      · have h30' : us[k] = false := by simpa using h30
        rw [h30']
        have huk : us[k]? = some false := by rw [List.getElem?_eq_getElem hku, h30']
        refine e_fl rfl rfl (fun hs_ => PF.mk rfl (v_move rfl) hs_) ?_
        refine e_fl rfl rfl (fun hs_ => PF.mkg rfl rfl rfl (v_move rfl) hs_) ?_
        refine e_fl rfl rfl (fun hs_ => PF.mkg rfl rfl rfl (v_move rfl) hs_) ?_
        refine e_fl rfl rfl (fun hs_ => PF.mkg rfl rfl rfl (v_indexA Try.underlying26 sz49 rfl rfl) hs_) ?_
        refine e_fl rfl rfl (fun hs_ => PF.mkg rfl rfl rfl (v_fieldI 0 Try.underlying49 rfl rfl fz4 rfl (by assumption)) hs_) ?_
        refine e_fl rfl rfl (fun hs_ => PF.mkg rfl rfl rfl (v_loadI0 ty4 (hatd.mono hI0) rfl rfl rfl) hs_) ?_
        refine e_fl rfl rfl (fun hs_ => PF.mkg rfl rfl rfl (v_move rfl) hs_) ?_
        refine e_fl rfl rfl (fun hs_ => PF.mkg rfl rfl rfl (v_indexIA Try.underlying26 sz49 rfl rfl) hs_) ?_
        refine e_fl rfl rfl (fun hs_ => PF.mkg rfl rfl rfl (v_fieldI 0 Try.underlying49 rfl rfl fz4 rfl (by assumption)) hs_) ?_
        refine e_fl rfl rfl (fun hs_ => PF.mkg rfl rfl rfl (v_loadI0 ty4 (hatc.mono hI0) rfl rfl rfl) hs_) ?_
        by_cases h37 : d[k].neg = a.neg
        · refine e_fl rfl rfl (fun hs_ => PF.mkg rfl rfl rfl (v_eqb (z := false) Try.underlying4 rfl rfl (by rw [h37]; simp [cmpB])) hs_) ?_
          refine e_fl rfl rfl (fun hs_ => PF.mk rfl (v_pickf rfl rfl) hs_) ?_
          refine e_done ?_
          refine post_next ?_
          refine code_cond_f rfl ?_
          refine code_skip ?_
          refine post_next ?_
          refine code_seq ?_
          refine code_draw (.fl 0 (.fl 1 (.fl 2 (.fl 3 (.fl 4 (.fl 5 (.fl 6 (.fl 7 (.ef 8 (.ef 9 .done)))))))))) (fun _ => _) mixed (by kernel_rfl) (by kernel_rfl) (fun _ => (List.Sublist.refl _)) ?_
          refine e_fl rfl rfl (fun hs_ => PF.mk rfl (v_move rfl) hs_) ?_
          refine e_fl rfl rfl (fun hs_ => PF.mk rfl (v_indexIA Try.underlying26 sz49 rfl rfl) hs_) ?_
          refine e_fl rfl rfl (fun hs_ => PF.mk rfl (v_loadI0 ty49 (hatc.mono hI0) rfl rfl rfl) hs_) ?_
          refine e_fl rfl rfl (fun hs_ => PF.mk rfl (v_move rfl) hs_) ?_
          refine e_fl rfl rfl (fun hs_ => PF.mk rfl (v_move rfl) hs_) ?_
          refine e_fl rfl rfl (fun hs_ => PF.mk rfl (v_indexA Try.underlying26 sz49 rfl rfl) hs_) ?_
          refine e_fl rfl rfl (fun hs_ => PF.mk rfl (v_loadI0 ty49 (hatd.mono hI0) rfl rfl rfl) hs_) ?_
          refine e_fl rfl rfl (fun hs_ => PF.mk rfl (v_move rfl) hs_) ?_
          refine e_eff rfl (by intro cs b hc; cases hc) (by intro c hc; cases hc) ?_
          refine op_call pl115 rfl rfl ((more_does (a := a) (l := d[k]) ⟨pa, pc, qa, qc, rfl, hpl.mono hI0, hpr.mono hI0⟩ ⟨la, lc, ra, rc, rfl, hll.mono hI0, hlr.mono hI0⟩ (hs.mono hI0) hsb hsa.1 hsa.2 hsk.1 hsk.2 (by omega))) Parts.none ?_
          rintro v47 I47 _ hI47 ⟨⟨L, hL, hL2, hLs, hLi⟩, rfl⟩
          refine ops_nil ?_
          refine e_next rfl side_allA ?_
          refine e_eff rfl (by intro cs b hc; cases hc) (by intro c hc; cases hc) ?_
          refine op_v (v_assign rfl) rfl ?_
          refine ops_nil ?_
          refine e_next rfl (side_nil (by kernel_rfl)) ?_
          refine e_done ?_
          refine post_next ?_
          refine code_seq ?_
          refine code_region ?_
          refine op_v (v_assign rfl) rfl ?_
          refine ops_nil ?_
          refine post_next ?_
          refine code_block ?_
          obtain ⟨lA, lC, xl, hsh, hlcap, hlb, hcelll, hrowl⟩ := id hL
          subst hsh
          refine code_loop (fun m σ' I' δ' => ∃ i : Nat, m = L.length - i ∧ i ≤ L.length ∧ σ' = [(0, .slice ca (a :: r).length cc), (1, .slice da d.length dc), (2, .slice ua us.length uc), (3, .slice sA bs.length sC), (9, .int .i64 k), (10, .slice lA L.length lC), (11, .int .i64 i)] ∧ I47.le I' ∧ δ' = [] ∧ ∀ j (h : j < L.length), j < i → ¬ SubB L[j] d (us.set k true) r) L.length [(0, .slice ca (a :: r).length cc), (1, .slice da d.length dc), (2, .slice ua us.length uc), (3, .slice sA bs.length sC), (9, .int .i64 k), (10, .slice lA L.length lC), (11, .int .i64 (0 : Nat))] ⟨0, rfl, Nat.zero_le _, rfl, Imm.le_refl _, rfl, fun j _ h => by omega⟩ ⟨rfl, rfl, rfl, rfl, rfl, rfl, rfl, trivial⟩ ?_
          rintro m _ I1 _ ⟨i, rfl, hi, rfl, hI1, rfl, hno1⟩
          refine code_seq ?_
          refine code_seq ?_
          refine code_region ?_
          refine op_v (v_move rfl) rfl ?_
          refine op_v (v_move rfl) rfl ?_
          refine op_v (v_len Try.underlying133 rfl) rfl ?_
          refine op_v (v_cmp rfl rfl rfl) rfl ?_
          refine ops_nil ?_
          refine post_next ?_
          refine code_cond rfl (fun hc3 => ?_) (fun hc3 => ?_)
          · have hlti : i < L.length := by have h := hc3; simp at h; omega
            obtain ⟨_, ⟨vb, rfl, hvb⟩, hatl⟩ := hrowl.cellsAt hcelll hlti
            obtain ⟨sb, sbc, rfl⟩ := hvb.shape
            have hs3 := hatl.isSome
            have hLsi := hLs _ (List.getElem_mem hlti)
            refine code_skip ?_
            refine post_next ?_
            refine code_seq ?_
            refine code_block ?_
            refine code_seq ?_
            refine code_region ?_
            refine op_v (v_move rfl) rfl ?_
            refine op_v (v_len Try.underlying26 rfl) rfl ?_
            refine o_makeSlice (z := .bool false) (size := 1) (bytes := 1) (xs := (freeU d.length).map Value.bool) Try.underlying82 (by kernel_rfl) rfl rfl rfl (by omega) (by omega) (by rw [Nat.mul_one]; exact (madeCells_one _ _).trans (by simp [freeU])) (fun g56 => ?_)
            refine op_v (v_assign rfl) rfl ?_
            refine ops_nil ?_
            refine post_next ?_
            refine code_seq ?_
            refine code_seq ?_
            refine code_region ?_
            refine op_v (v_assign rfl) rfl ?_
            refine ops_nil ?_
            refine post_next ?_
            refine code_block ?_
            have hgs : (some (⟨g56, 0, none⟩ : Addr)).isSome = true := rfl
            refine code_loop (fun m σ' I' δ' => ∃ (n : Nat) (ws : List Bool), m = d.length - n ∧ n ≤ d.length ∧ σ' = [(0, .slice ca (a :: r).length cc), (1, .slice da d.length dc), (2, .slice ua us.length uc), (3, .slice sA bs.length sC), (9, .int .i64 k), (10, .slice lA L.length lC), (11, .int .i64 i), (12, .slice (some ⟨g56, 0, none⟩) d.length d.length), (13, .int .i64 n)] ∧ I1.le I' ∧ δ' = [bsRow g56 d.length ws] ∧ ws.length = d.length ∧ ∀ m, m < n → ws[m]? = (us.set k true)[m]?) d.length [(0, .slice ca (a :: r).length cc), (1, .slice da d.length dc), (2, .slice ua us.length uc), (3, .slice sA bs.length sC), (9, .int .i64 k), (10, .slice lA L.length lC), (11, .int .i64 i), (12, .slice (some ⟨g56, 0, none⟩) d.length d.length), (13, .int .i64 (0 : Nat))] ⟨0, freeU d.length, rfl, Nat.zero_le _, rfl, Imm.le_refl _, rfl, by simp [freeU], fun j h => by omega⟩ ⟨rfl, rfl, rfl, rfl, rfl, rfl, rfl, rfl, rfl, trivial⟩ ?_
            rintro m _ I2 _ ⟨n, ws, rfl, hn, rfl, hI2, rfl, hwl, hws⟩
            refine code_seq ?_
            refine code_seq ?_
            refine code_region ?_
            refine op_v (v_move rfl) rfl ?_
            refine op_v (v_move rfl) rfl ?_
            refine op_v (v_len Try.underlying26 rfl) rfl ?_
            refine op_v (v_cmp rfl rfl rfl) rfl ?_
            refine ops_nil ?_
            refine post_next ?_
            refine code_cond rfl (fun hc4 => ?_) (fun hc4 => ?_)
            · have hltn : n < d.length := by have h := hc4; simp at h; omega
              have hnu : n < us.length := by omega
              have hnw : n < ws.length := by omega
              obtain ⟨_, rfl, hatn⟩ := hrowu.cellsAt hcellu hnu
              have hs4 := hatn.isSome
              refine code_skip ?_
              refine post_next ?_
              refine code_seq ?_
              refine code_block ?_
              refine code_region ?_
              refine op_v (v_move rfl) rfl ?_
              refine op_v (v_move rfl) rfl ?_
              refine op_v (v_move rfl) rfl ?_
              refine op_v (v_move rfl) rfl ?_
              refine op_v (v_indexA Try.underlying82 sz4 rfl rfl) rfl ?_
              refine op_v (v_loadI0 ty4 (hatn.mono Imm.leA) rfl rfl rfl) rfl ?_
              by_cases hun : us[n] = true
              · rw [hun]
                have hb : (us.set k true)[n]? = some true := by
                  by_cases q : k = n
                  · subst q; rw [List.getElem?_set_self hnu]
                  · rw [List.getElem?_set_ne q, List.getElem?_eq_getElem hnu, hun]
                refine op_v (v_move rfl) rfl ?_
                refine op_skip rfl rfl (by simp [undef]) rfl ?_
                refine op_skip rfl rfl (by simp [undef]) rfl ?_
                refine op_skip rfl rfl (by simp [undef]) rfl ?_
                refine op_v (v_pickt rfl rfl) rfl ?_
                refine op_v (v_indexA Try.underlying82 sz4 rfl rfl) rfl ?_
                refine o_storeRow (xs' := (ws.set n true).map Value.bool) ty4 rfl rfl rfl rfl rfl rfl (by simp [cellsL, hwl]) Swap.here (by rw [List.map_set, Nat.mul_one]; exact stL_one (x := .bool ws[n]) (by rw [List.getElem?_map, List.getElem?_eq_getElem hnw]; rfl)) ?_
                refine ops_nil ?_
                refine post_out ?_
                refine post_next ?_
                refine code_region ?_
                refine op_v (v_move rfl) rfl ?_
                refine op_v (v_addb rfl rfl rfl (by omega)) rfl ?_
                refine op_v (v_assign rfl) rfl ?_
                refine ops_nil ?_
                refine post_again (d.length - (n + 1)) [(0, .slice ca (a :: r).length cc), (1, .slice da d.length dc), (2, .slice ua us.length uc), (3, .slice sA bs.length sC), (9, .int .i64 k), (10, .slice lA L.length lC), (11, .int .i64 i), (12, .slice (some ⟨g56, 0, none⟩) d.length d.length), (13, .int .i64 (n + 1 : Nat))] (by omega) ⟨n + 1, ws.set n true, rfl, hltn, rfl, Imm.leA, rfl, by simp [hwl], fill_next hnw hws hb⟩ ⟨rfl, rfl, rfl, rfl, rfl, rfl, rfl, rfl, rfl, trivial⟩
              · have hun' : us[n] = false := by simpa using hun
                rw [hun']
                refine op_v (v_move rfl) rfl ?_
                refine op_want rfl rfl ?_
                refine op_v (v_move rfl) rfl ?_
                refine op_want rfl rfl ?_
                refine op_v (v_move rfl) rfl ?_
                by_cases hnk : n = k
                · have hb : (us.set k true)[n]? = some true := by subst hnk; rw [List.getElem?_set_self hnu]
                  first
                    | (refine op_want rfl rfl ?_
                       refine op_v (v_cmptA rfl rfl rfl) rfl ?_)
                    | (refine op_skip rfl rfl (by simp [undef]) rfl ?_)
                  refine op_v (v_pickf rfl rfl) rfl ?_
                  refine op_v (v_indexA Try.underlying82 sz4 rfl rfl) rfl ?_
                  refine o_storeRow (xs' := (ws.set n true).map Value.bool) ty4 rfl rfl rfl rfl rfl rfl (by simp [cellsL, hwl]) Swap.here (by rw [List.map_set, Nat.mul_one]; exact stL_one (x := .bool ws[n]) (by rw [List.getElem?_map, List.getElem?_eq_getElem hnw]; rfl)) ?_
                  refine ops_nil ?_
                  refine post_out ?_
                  refine post_next ?_
                  refine code_region ?_
                  refine op_v (v_move rfl) rfl ?_
                  refine op_v (v_addb rfl rfl rfl (by omega)) rfl ?_
                  refine op_v (v_assign rfl) rfl ?_
                  refine ops_nil ?_
                  refine post_again (d.length - (n + 1)) [(0, .slice ca (a :: r).length cc), (1, .slice da d.length dc), (2, .slice ua us.length uc), (3, .slice sA bs.length sC), (9, .int .i64 k), (10, .slice lA L.length lC), (11, .int .i64 i), (12, .slice (some ⟨g56, 0, none⟩) d.length d.length), (13, .int .i64 (n + 1 : Nat))] (by omega) ⟨n + 1, ws.set n true, rfl, hltn, rfl, Imm.leA, rfl, by simp [hwl], fill_next hnw hws hb⟩ ⟨rfl, rfl, rfl, rfl, rfl, rfl, rfl, rfl, rfl, trivial⟩
                · have hb : (us.set k true)[n]? = some false := by rw [List.getElem?_set_ne (by omega), List.getElem?_eq_getElem hnu, hun']
                  first
                    | (refine op_want rfl rfl ?_
                       refine op_v (v_cmpfA rfl rfl rfl) rfl ?_)
                    | (refine op_skip rfl rfl (by simp [undef]) rfl ?_)
                  refine op_v (v_pickf rfl rfl) rfl ?_
                  refine op_v (v_indexA Try.underlying82 sz4 rfl rfl) rfl ?_
                  refine o_storeRow (xs' := (ws.set n false).map Value.bool) ty4 rfl rfl rfl rfl rfl rfl (by simp [cellsL, hwl]) Swap.here (by rw [List.map_set, Nat.mul_one]; exact stL_one (x := .bool ws[n]) (by rw [List.getElem?_map, List.getElem?_eq_getElem hnw]; rfl)) ?_
                  refine ops_nil ?_
                  refine post_out ?_
                  refine post_next ?_
                  refine code_region ?_
                  refine op_v (v_move rfl) rfl ?_
                  refine op_v (v_addb rfl rfl rfl (by omega)) rfl ?_
                  refine op_v (v_assign rfl) rfl ?_
                  refine ops_nil ?_
                  refine post_again (d.length - (n + 1)) [(0, .slice ca (a :: r).length cc), (1, .slice da d.length dc), (2, .slice ua us.length uc), (3, .slice sA bs.length sC), (9, .int .i64 k), (10, .slice lA L.length lC), (11, .int .i64 i), (12, .slice (some ⟨g56, 0, none⟩) d.length d.length), (13, .int .i64 (n + 1 : Nat))] (by omega) ⟨n + 1, ws.set n false, rfl, hltn, rfl, Imm.leA, rfl, by simp [hwl], fill_next hnw hws hb⟩ ⟨rfl, rfl, rfl, rfl, rfl, rfl, rfl, rfl, rfl, trivial⟩
            · have hgen : n = d.length := by have h := hc4; simp at h; omega
              have hwe := ext_set (us := us) (k := k) (by omega) (fun m hm => hws m (by omega))
              refine code_exit ?_
              refine post_exit_then ?_
              refine post_exit_then ?_
              refine post_exit ?_
              refine post_next ?_
              refine code_seq ?_
              refine CodeJ.freezeRow Del.here ?_
              rintro I16 a16 c16 hI16 hq hc16 hl16 hcells16
              cases hq
              have hun2 : RepE BoE I16 (.slice (some ⟨g56, 0, none⟩) d.length d.length) (us.set k true) := ⟨some ⟨g56, 0, none⟩, d.length, (us.set k true).map Value.bool, by rw [List.length_set, hul], by simp [hul], by rw [List.length_set]; omega, by rw [← hwe]; exact hcells16, rowBo _⟩
              refine code_draw (.fl 0 (.fl 1 (.fl 2 (.fl 3 (.fl 4 (.fl 5 (.fl 6 (.fl 7 (.ef 8 .done))))))))) (fun _ => _) mixed (by kernel_rfl) (by kernel_rfl) (fun _ => (List.Sublist.refl _)) ?_
              refine e_fl rfl rfl (fun hs_ => PF.mk rfl (v_move rfl) hs_) ?_
              refine e_fl rfl rfl (fun hs_ => PF.mk rfl (v_sliceFrom (m := 1) Try.underlying26 sz49 rfl rfl hm1 hcc) hs_) ?_
              refine e_fl rfl rfl (fun hs_ => PF.mk rfl (v_move rfl) hs_) ?_
              refine e_fl rfl rfl (fun hs_ => PF.mk rfl (v_move rfl) hs_) ?_
              refine e_fl rfl rfl (fun hs_ => PF.mk rfl (v_move rfl) hs_) ?_
              refine e_fl rfl rfl (fun hs_ => PF.mk rfl (v_move rfl) hs_) ?_
              refine e_fl rfl rfl (fun hs_ => PF.mk rfl (v_indexA Try.underlying133 sz51 rfl rfl) hs_) ?_
              refine e_fl rfl rfl (fun hs_ => PF.mk rfl (v_loadI0 ty51 (hatl.mono Imm.leA) rfl rfl rfl) hs_) ?_
              refine e_eff rfl (by intro cs b hc; cases hc) (by intro c hc; cases hc) ?_
              refine op_call pl71 rfl rfl ((ih hsr (us.set k true) _ _ _ _ L[i] (by simp [hul]) (hr1.mono Imm.leA) (hd.mono Imm.leA) hun2 (hvb.mono Imm.leA) hLsi.1 (by have := hLsi.2; omega))) Parts.none ?_
              rintro v83 I83 _ hI83 ⟨⟨q83, rfl, hq83⟩, rfl⟩
              refine ops_nil ?_
              refine e_next rfl side_allA ?_
              refine e_done ?_
              refine post_next ?_
              refine code_cond rfl (fun hc5 => ?_) (fun hc5 => ?_)
              · have hq : q83 = true := hc5
                refine code_seq ?_
                refine code_region ?_
                refine op_v (v_assign rfl) rfl ?_
                refine ops_nil ?_
                refine post_next ?_
                refine code_ret ?_
                refine post_ret_block ?_
                refine post_ret_then ?_
                refine post_ret_then ?_
                refine post_ret_block ?_
                refine post_ret_block ?_
                refine post_ret_then ?_
                refine post_ret_then ?_
                refine post_ret_block ?_
                refine post_ret_then ?_
                refine post_ret (rs := [.tmp 8]) rfl (List.Perm.refl _) (.cons (.tmp rfl) .nil) (List.nil_sublist _) ?_
                exact ⟨⟨true, rfl, by simp only [true_iff]; obtain ⟨θ, e1, e3⟩ := hq83.1 hq; obtain ⟨e4, e5⟩ := (hLi θ).2 ⟨_, List.getElem_mem hlti, e1⟩; exact SubB_cons.2 ⟨k, hlt, huk, h37, θ, e4, e5, e3⟩⟩, rfl⟩
              · have hq : ¬ q83 = true := by rw [hc5]; simp
                refine code_skip ?_
                refine post_out ?_
                refine post_next ?_
                refine code_region ?_
                refine op_v (v_move rfl) rfl ?_
                refine op_v (v_addb rfl rfl rfl (by omega)) rfl ?_
                refine op_v (v_assign rfl) rfl ?_
                refine ops_nil ?_
                refine post_again (L.length - (i + 1)) [(0, .slice ca (a :: r).length cc), (1, .slice da d.length dc), (2, .slice ua us.length uc), (3, .slice sA bs.length sC), (9, .int .i64 k), (10, .slice lA L.length lC), (11, .int .i64 (i + 1 : Nat))] (by omega) ⟨i + 1, rfl, hlti, rfl, Imm.leA, rfl, fun j h hj => ?_⟩ ⟨rfl, rfl, rfl, rfl, rfl, rfl, rfl, trivial⟩
                rcases Nat.lt_or_ge j i with q | q
                · exact hno1 j h q
                · have e : j = i := by omega
                  subst e; exact fun hs => hq (hq83.2 hs)
          · have hgei : i = L.length := by have h := hc3; simp at h; omega
            have hbad : ¬ SubK bs d us a r k := fun ⟨_, _, _, θ, e1, e2, e3⟩ => by
              obtain ⟨b, hb, he⟩ := (hLi θ).1 ⟨e1, e2⟩
              obtain ⟨j, hj, rfl⟩ := List.getElem_of_mem hb
              exact hno1 j hj (by omega) ⟨θ, he, e3⟩
            refine code_exit ?_
            refine post_exit_then ?_
            refine post_exit_then ?_
            refine post_exit ?_
            refine post_out ?_
            refine post_next ?_
            refine code_region ?_
            refine op_v (v_move rfl) rfl ?_
            refine op_v (v_addb rfl rfl rfl (by omega)) rfl ?_
            refine op_v (v_assign rfl) rfl ?_
            refine ops_nil ?_
            refine post_again (d.length - (k + 1)) [(0, .slice ca (a :: r).length cc), (1, .slice da d.length dc), (2, .slice ua us.length uc), (3, .slice sA bs.length sC), (9, .int .i64 (k + 1 : Nat))] (by omega) ⟨k + 1, rfl, hlt, rfl, Imm.leA, rfl, hnext hbad⟩ ⟨rfl, rfl, rfl, rfl, rfl, trivial⟩
        · have hbad : ¬ SubK bs d us a r k := fun ⟨_, _, h3, _⟩ => h37 h3
          refine e_fl rfl rfl (fun hs_ => PF.mkg rfl rfl rfl (v_eqb (z := true) Try.underlying4 rfl rfl (by simp [cmpB, h37])) hs_) ?_
          refine e_fl rfl rfl (fun hs_ => PF.mk rfl (v_pickf rfl rfl) hs_) ?_
          refine e_done ?_
          refine post_next ?_
          refine code_cond_t rfl ?_
          refine code_exit ?_
          refine post_exit_then ?_
          refine post_exit ?_
          refine post_next ?_
          refine code_region ?_
          refine op_v (v_move rfl) rfl ?_
          refine op_v (v_addb rfl rfl rfl (by omega)) rfl ?_
          refine op_v (v_assign rfl) rfl ?_
          refine ops_nil ?_
          refine post_again (d.length - (k + 1)) [(0, .slice ca (a :: r).length cc), (1, .slice da d.length dc), (2, .slice ua us.length uc), (3, .slice sA bs.length sC), (9, .int .i64 (k + 1 : Nat))] (by omega) ⟨k + 1, rfl, hlt, rfl, Imm.leA, rfl, hnext hbad⟩ ⟨rfl, rfl, rfl, rfl, rfl, trivial⟩
    · have hge : k = d.length := by simp at hc1; omega
      refine code_exit ?_
      refine post_exit_then ?_
      refine post_exit_then ?_
      refine post_exit ?_
      refine post_next ?_
      refine code_seq ?_
      refine code_region ?_
      refine op_v (v_assign rfl) rfl ?_
      refine ops_nil ?_
      refine post_next ?_
      refine code_ret ?_
      refine post_ret (rs := [.tmp 8]) rfl (List.Perm.refl _) (.cons (.tmp rfl) .nil) (List.nil_sublist _) ?_
      exact ⟨⟨false, rfl, by simp only [Bool.false_eq_true, false_iff]; rw [SubB_cons]; rintro ⟨j, hj⟩; exact hno j (by obtain ⟨h, _⟩ := hj; omega) hj⟩, rfl⟩
end Go.Proofs.Ytdbadicpbmndbaa
/- Walks: the document's answers: one clause subsumes another one, variants, what can be left out. -/
set_option linter.unusedVariables false
set_option linter.unusedSimpArgs false
set_option linter.unnecessarySimpa false
/- short -/
namespace Go.Proofs.Ytdbadicpbmndbaa
open Go Lg

theorem RepB.nil (I : Imm) : RepB I (.slice none 0 0) [] := ⟨none, 0, fun _ => (none, 0), [], Nat.le_refl _, by simp, fun i h => by simp at h, fun i h => by simp at h, fun i h => by simp at h⟩
theorem RSubsumes_does {I : Imm} {vc vd : Value} {c d : List Li} (hc : RepC I vc c) (hd : RepC I vd d) (hsc : SmM c) (hsd : SmM d) :
    Does Try.prog 24 [vc, vd] I [] (fun v I' δ' => (∃ q, v = .tuple #[.bool q, .int .i64 (wrE c d)] ∧ (q = true ↔ wrE c d = 0 ∧ Sub c d)) ∧ δ' = []) := by
  obtain ⟨da, dc, hsh⟩ := RepE.shape hd
  subst hsh
  have hbD := hd.small
  have hsc1 : SmC c := fun x hx => by have := hsc x hx; omega
  have hsd1 : SmC d := fun x hx => by have := hsd x hx; omega
  refine Does.intro Try.func24 rfl Try.ntmps24 rfl fun w0 => ?_
  refine code_seq ?_
  refine code_region ?_
  refine op_v (v_assign rfl) rfl ?_
  refine op_v (v_assign rfl) rfl ?_
  refine ops_nil ?_
  refine post_next ?_
  refine code_seq ?_
  refine code_region ?_
  refine op_v (v_move rfl) rfl ?_
  refine op_v (v_move rfl) rfl ?_
  refine op_call pl70 rfl rfl ((Rwrong15_does hc hd hsc1 hsd1)) Parts.none ?_
  rintro v9 I9 _ hI9 ⟨rfl, rfl⟩
  refine op_v (v_assign rfl) rfl ?_
  refine ops_nil ?_
  refine post_next ?_
  refine code_seq ?_
  refine code_seq ?_
  refine code_region ?_
  refine op_v (v_move rfl) rfl ?_
  by_cases h11 : wrE c d ≠ 0
  · refine op_v (v_cmptA rfl rfl rfl) rfl ?_
    refine ops_nil ?_
    refine post_next ?_
    refine code_cond_t rfl ?_
    refine code_seq ?_
    refine code_region ?_
    refine op_v (v_move rfl) rfl ?_
    refine op_v (v_assign rfl) rfl ?_
    refine op_v (v_assign rfl) rfl ?_
    refine ops_nil ?_
    refine post_next ?_
    refine code_ret ?_
    refine post_ret_then ?_
    refine post_ret (rs := [.tmp 4, .tmp 5]) rfl (List.Perm.refl _) (.cons (.tmp rfl) (.cons (.tmp rfl) .nil)) (List.nil_sublist _) ?_
    exact ⟨⟨false, rfl, by simp [h11]⟩, rfl⟩
  · have h0 : wrE c d = 0 := Classical.not_not.1 h11
    obtain ⟨hlc, hld, _, _⟩ := wrE_ok h0
    refine op_v (v_cmpfA rfl rfl rfl) rfl ?_
    refine ops_nil ?_
    refine post_next ?_
    refine code_cond_f rfl ?_
    refine code_skip ?_
    refine post_next ?_
    refine code_seq ?_
    refine code_region ?_
    refine op_v (v_move rfl) rfl ?_
    refine op_v (v_move rfl) rfl ?_
    refine op_v (v_move rfl) rfl ?_
    refine op_v (v_len Try.underlying26 rfl) rfl ?_
    refine o_makeSlice (z := .bool false) (size := 1) (bytes := 1) (xs := (freeU d.length).map Value.bool) Try.underlying82 (by kernel_rfl) rfl rfl rfl (by omega) (by omega) (by rw [Nat.mul_one]; exact (madeCells_one _ _).trans (by simp [freeU])) (fun g17 => ?_)
    refine OpsJ.freezeRow Del.here ?_
    rintro I17 a17 c17 hI17 hq hc17 hl17 hcells17
    cases hq
    have hun : RepE BoE I17 (.slice (some ⟨g17, 0, none⟩) d.length d.length) (freeU d.length) := ⟨some ⟨g17, 0, none⟩, d.length, (freeU d.length).map Value.bool, by simp [freeU], by simp [freeU], by simp [freeU]; omega, hcells17, rowBo _⟩
    refine op_call pl71 rfl rfl ((match_does hsd c hsc (freeU d.length) _ _ _ _ [] (by simp [freeU]) (hc.mono Imm.leA) (hd.mono Imm.leA) hun (RepB.nil _) (fun x h => by cases h) (by simp; omega))) Parts.none ?_
    rintro v18 I18 _ hI18 ⟨⟨q18, rfl, hq18⟩, rfl⟩
    refine op_v (v_assign rfl) rfl ?_
    refine op_v (v_assign rfl) rfl ?_
    refine ops_nil ?_
    refine post_next ?_
    refine code_ret ?_
    refine post_ret (rs := [.tmp 4, .tmp 5]) rfl (List.Perm.refl _) (.cons (.tmp rfl) (.cons (.tmp rfl) .nil)) (List.nil_sublist _) ?_
    exact ⟨⟨q18, by rw [h0]; rfl, by rw [hq18, SubB_Sub]; simp [h0]⟩, rfl⟩
theorem RVariant15_does {I : Imm} {vc vd : Value} {c d : List Li} (hc : RepC I vc c) (hd : RepC I vd d) (hsc : SmM c) (hsd : SmM d) :
    Does Try.prog 26 [vc, vd] I [] (fun v I' δ' => (∃ q, v = .tuple #[.bool q, .int .i64 (wrE c d)] ∧ (q = true ↔ wrE c d = 0 ∧ Sub c d ∧ Sub d c)) ∧ δ' = []) := by
  refine Does.intro Try.func26 rfl Try.ntmps26 rfl fun w0 => ?_
  refine code_seq ?_
  refine code_region ?_
  refine op_v (v_assign rfl) rfl ?_
  refine op_v (v_assign rfl) rfl ?_
  refine ops_nil ?_
  refine post_next ?_
  refine code_seq ?_
  refine code_region ?_
  refine op_v (v_move rfl) rfl ?_
  refine op_v (v_move rfl) rfl ?_
  refine op_call pl24 rfl rfl ((RSubsumes_does hc hd hsc hsd)) Parts.none ?_
  rintro v13 I13 _ hI13 ⟨⟨q13, rfl, hq13⟩, rfl⟩
  refine op_v (v_move rfl) rfl ?_
  refine op_v (v_extract rfl rfl) rfl ?_
  refine op_v (v_extract rfl rfl) rfl ?_
  refine op_v (v_assign rfl) rfl ?_
  refine op_v (v_assign rfl) rfl ?_
  refine ops_nil ?_
  refine post_next ?_
  refine code_seq ?_
  refine code_region ?_
  refine op_v (v_move rfl) rfl ?_
  refine op_v (v_move rfl) rfl ?_
  refine op_call pl24 rfl rfl ((RSubsumes_does (hd.mono Imm.leA) (hc.mono Imm.leA) hsd hsc)) Parts.none ?_
  rintro v19 I19 _ hI19 ⟨⟨q19, rfl, hq19⟩, rfl⟩
  refine op_v (v_move rfl) rfl ?_
  refine op_v (v_extract rfl rfl) rfl ?_
  refine op_v (v_extract rfl rfl) rfl ?_
  refine op_v (v_assign rfl) rfl ?_
  refine op_v (v_assign rfl) rfl ?_
  refine ops_nil ?_
  refine post_next ?_
  refine code_seq ?_
  refine code_region ?_
  refine op_v (v_move rfl) rfl ?_
  by_cases h23 : q13 = true
  · subst h23
    obtain ⟨h0, hs⟩ := hq13.1 rfl
    have h1 := wrE_comm h0
    refine op_v (v_move rfl) rfl ?_
    refine op_want rfl rfl ?_
    refine op_v (v_move rfl) rfl ?_
    refine op_v (v_pickt rfl rfl) rfl ?_
    refine op_v (v_move rfl) rfl ?_
    refine op_v (v_assign rfl) rfl ?_
    refine op_v (v_assign rfl) rfl ?_
    refine ops_nil ?_
    refine post_next ?_
    refine code_ret ?_
    refine post_ret (rs := [.tmp 4, .tmp 5]) rfl (List.Perm.refl _) (.cons (.tmp rfl) (.cons (.tmp rfl) .nil)) (List.nil_sublist _) ?_
    exact ⟨⟨q19, rfl, by rw [hq19]; simp [h0, h1, hs]⟩, rfl⟩
  · have h23' : q13 = false := by simpa using h23
    subst h23'
    refine op_v (v_move rfl) rfl ?_
    refine op_skip rfl rfl (by simp [undef]) rfl ?_
    refine op_v (v_pickf rfl rfl) rfl ?_
    refine op_v (v_move rfl) rfl ?_
    refine op_v (v_assign rfl) rfl ?_
    refine op_v (v_assign rfl) rfl ?_
    refine ops_nil ?_
    refine post_next ?_
    refine code_ret ?_
    refine post_ret (rs := [.tmp 4, .tmp 5]) rfl (List.Perm.refl _) (.cons (.tmp rfl) (.cons (.tmp rfl) .nil)) (List.nil_sublist _) ?_
    exact ⟨⟨false, rfl, by simp only [Bool.false_eq_true, false_iff]; rintro ⟨h1, h2, _⟩; have := hq13.2 ⟨h1, h2⟩; cases this⟩, rfl⟩
theorem cut15_does {I : Imm} {vc vd : Value} {c d : List Li} {i k : Nat} (hc : RepC I vc c) (hd : RepC I vd d) (hsc : SmM c) (hsd : SmM d) (hlc : c.length ≤ 32) (hld : d.length ≤ 32) (hi : i < c.length) (hk : k < d.length) :
    Does Try.prog 72 [vc, vd, .int .i64 i, .int .i64 k] I [] (fun v I' δ' => (∃ q, v = .bool q ∧ (q = true ↔ CutP c d i k)) ∧ δ' = []) := by
  obtain ⟨ca, cc, xc, hsh, hcc, hcb, hcellc, hrowc⟩ := id hc
  subst hsh
  obtain ⟨da, dc, xd, hsh, hdc, hdb, hcelld, hrowd⟩ := id hd
  subst hsh
  obtain ⟨vi, ⟨pa, pc, qa, qc, rfl, hpl, hpr⟩, hatc⟩ := hrowc.cellsAt hcellc hi
  obtain ⟨vk, ⟨la, lc, ra, rc, rfl, hll, hlr⟩, hatd⟩ := hrowd.cellsAt hcelld hk
  have hs1 := hatc.isSome
  have hs2 := hatd.isSome
  have hsi := hsc _ (List.getElem_mem hi)
  have hsk := hsd _ (List.getElem_mem hk)
  have hser : SmM (c.eraseIdx i) := fun x hx => hsc x (List.mem_of_mem_eraseIdx hx)
  have hcx := hrowc.length
  refine Does.intro Try.func72 rfl Try.ntmps72 rfl fun w0 => ?_
  refine code_seq ?_
  refine code_region ?_
  refine op_v (v_assign rfl) rfl ?_
  refine ops_nil ?_
  refine post_next ?_
  refine code_seq ?_
  refine code_seq ?_
  refine code_draw (.fl 0 (.fl 1 (.fl 2 (.fl 3 (.fl 4 (.fl 5 (.fl 6 (.fl 7 (.fl 8 (.fl 9 (.fl 10 .done))))))))))) (fun _ => _) mixed (by kernel_rfl) (by kernel_rfl) (fun _ => (List.Sublist.refl _)) ?_
  refine e_fl rfl rfl (fun hs_ => PF.mk rfl (v_move rfl) hs_) ?_
  refine e_fl rfl rfl (fun hs_ => PF.mk rfl (v_move rfl) hs_) ?_
  refine e_fl rfl rfl (fun hs_ => PF.mk rfl (v_indexA Try.underlying26 sz49 rfl rfl) hs_) ?_
  refine e_fl rfl rfl (fun hs_ => PF.mk rfl (v_fieldI 0 Try.underlying49 rfl rfl fz4 rfl (by assumption)) hs_) ?_
  refine e_fl rfl rfl (fun hs_ => PF.mk rfl (v_loadI0 ty4 (hatc.mono Imm.leA) rfl rfl rfl) hs_) ?_
  refine e_fl rfl rfl (fun hs_ => PF.mk rfl (v_move rfl) hs_) ?_
  refine e_fl rfl rfl (fun hs_ => PF.mk rfl (v_move rfl) hs_) ?_
  refine e_fl rfl rfl (fun hs_ => PF.mk rfl (v_indexA Try.underlying26 sz49 rfl rfl) hs_) ?_
  refine e_fl rfl rfl (fun hs_ => PF.mk rfl (v_fieldI 0 Try.underlying49 rfl rfl fz4 rfl (by assumption)) hs_) ?_
  refine e_fl rfl rfl (fun hs_ => PF.mk rfl (v_loadI0 ty4 (hatd.mono Imm.leA) rfl rfl rfl) hs_) ?_
  by_cases h23 : c[i].neg = d[k].neg
  · refine e_fl rfl rfl (fun hs_ => PF.mk rfl (v_eqb (z := true) Try.underlying4 rfl rfl (by rw [h23]; simp [cmpB])) hs_) ?_
    refine e_done ?_
    refine post_next ?_
    refine code_cond_t rfl ?_
    refine code_seq ?_
    refine code_region ?_
    refine op_v (v_assign rfl) rfl ?_
    refine ops_nil ?_
    refine post_next ?_
    refine code_ret ?_
    refine post_ret_then ?_
    refine post_ret (rs := [.tmp 8]) rfl (List.Perm.refl _) (.cons (.tmp rfl) .nil) (List.nil_sublist _) ?_
    exact ⟨⟨false, rfl, by simp only [Bool.false_eq_true, false_iff]; rintro ⟨_, _, h, _⟩; exact h h23⟩, rfl⟩
  · refine e_fl rfl rfl (fun hs_ => PF.mk rfl (v_eqb (z := false) Try.underlying4 rfl rfl (by simp [cmpB, h23])) hs_) ?_
    refine e_done ?_
    refine post_next ?_
    refine code_cond_f rfl ?_
    refine code_skip ?_
    refine post_next ?_
    refine code_seq ?_
    refine code_region ?_
    refine op_v (v_assign rfl) rfl ?_
    refine ops_nil ?_
    refine post_next ?_
    refine code_seq ?_
    refine code_region ?_
    refine op_v (v_move rfl) rfl ?_
    refine op_v (v_move rfl) rfl ?_
    refine op_v (v_move rfl) rfl ?_
    refine op_v (v_sliceTo Try.underlying26 sz49 rfl rfl (by omega)) rfl ?_
    refine OpsJ.view (View.nilRow 49 5) ?_
    refine o_append Try.underlying26 bs49 rfl rfl rfl (fun v' => by repeat (first | exact Swap.here | apply Swap.there)) (Src.ofI ((hcellc.take (i * 5)).mono Imm.leA)) ((hrowc.take i (by omega)).length.trans (by rw [List.length_take, Nat.min_eq_left (by omega)])) (hrowc.take i (by omega)).one1 (by omega) (by omega) (fun a28 c28 => ?_)
    refine op_v (v_assign rfl) rfl ?_
    refine ops_nil ?_
    refine post_next ?_
    refine code_seq ?_
    refine code_region ?_
    refine op_v (v_move rfl) rfl ?_
    refine op_v (v_move rfl) rfl ?_
    refine op_v (v_move rfl) rfl ?_
    refine op_v (v_addb (c := ((i + 1 : Nat) : Int)) rfl rfl (by omega) (by omega)) rfl ?_
    refine op_v (v_sliceFrom (m := i + 1) Try.underlying26 sz49 rfl rfl (by omega) hcc) rfl ?_
    refine o_append Try.underlying26 bs49 rfl rfl rfl (fun v' => by repeat (first | exact Swap.here | apply Swap.there)) (Src.ofI ((hcellc.cut (by rw [hcx]; exact Nat.mul_le_mul_right _ hcc)).mono Imm.leA)) ((hrowc.drop (i + 1) (by omega)).length.trans (by rw [List.length_drop])) (hrowc.drop (i + 1) (by omega)).one1 (by omega) (by omega) (fun a34 c34 => ?_)
    refine op_v (v_assign rfl) rfl ?_
    refine ops_nil ?_
    refine post_next ?_
    refine code_seq ?_
    refine CodeJ.freezeRow Del.here ?_
    rintro I34 A34 C34 hI34 hq hc34 hl34 hcells34
    cases hq
    have hlen : 0 + i + (c.length - (i + 1)) = (c.eraseIdx i).length := by rw [List.length_eraseIdx]; simp [hi]; omega
    have hrest : RepC I34 (.slice a34 (0 + i + (c.length - (i + 1))) c34) (c.eraseIdx i) := ⟨a34, c34, _, by rw [hlen], by rw [← hlen]; exact hc34, by rw [← hlen]; omega, hcells34, by rw [List.eraseIdx_eq_take_drop_succ]; exact ((hrowc.take i (by omega)).app (hrowc.drop (i + 1) (by omega))).mono Imm.leA⟩
    refine code_draw (.fl 0 (.fl 1 (.fl 2 (.fl 3 (.fl 4 (.fl 5 (.fl 6 (.fl 7 (.ef 8 (.ef 9 .done)))))))))) (fun _ => _) mixed (by kernel_rfl) (by kernel_rfl) (fun _ => (List.Sublist.refl _)) ?_
    refine e_fl rfl rfl (fun hs_ => PF.mk rfl (v_move rfl) hs_) ?_
    refine e_fl rfl rfl (fun hs_ => PF.mk rfl (v_move rfl) hs_) ?_
    refine e_fl rfl rfl (fun hs_ => PF.mk rfl (v_indexA Try.underlying26 sz49 rfl rfl) hs_) ?_
    refine e_fl rfl rfl (fun hs_ => PF.mk rfl (v_loadI0 ty49 (hatc.mono Imm.leA) rfl rfl rfl) hs_) ?_
    refine e_fl rfl rfl (fun hs_ => PF.mk rfl (v_move rfl) hs_) ?_
    refine e_fl rfl rfl (fun hs_ => PF.mk rfl (v_move rfl) hs_) ?_
    refine e_fl rfl rfl (fun hs_ => PF.mk rfl (v_indexA Try.underlying26 sz49 rfl rfl) hs_) ?_
    refine e_fl rfl rfl (fun hs_ => PF.mk rfl (v_loadI0 ty49 (hatd.mono Imm.leA) rfl rfl rfl) hs_) ?_
    refine e_eff rfl (by intro cs b hc; cases hc) (by intro c hc; cases hc) ?_
    refine op_call pl115 rfl rfl ((more_does (a := c[i]) (l := d[k]) (bs := []) ⟨pa, pc, qa, qc, rfl, hpl.mono Imm.leA, hpr.mono Imm.leA⟩ ⟨la, lc, ra, rc, rfl, hll.mono Imm.leA, hlr.mono Imm.leA⟩ (RepB.nil _) (fun x h => by cases h) hsi.1 hsi.2 hsk.1 hsk.2 (by simp))) Parts.none ?_
    rintro v43 I43 _ hI43 ⟨⟨L, hL, hL2, hLs, hLi⟩, rfl⟩
    refine ops_nil ?_
    refine e_next rfl side_allA ?_
    refine e_eff rfl (by intro cs b hc; cases hc) (by intro c hc; cases hc) ?_
    refine op_v (v_assign rfl) rfl ?_
    refine ops_nil ?_
    refine e_next rfl (side_nil (by kernel_rfl)) ?_
    refine e_done ?_
    refine post_next ?_
    refine code_seq ?_
    refine code_seq ?_
    refine code_region ?_
    refine op_v (v_assign rfl) rfl ?_
    refine ops_nil ?_
    refine post_next ?_
    refine code_block ?_
    obtain ⟨lA, lC, xl, hsh, hlcap, hlb, hcelll, hrowl⟩ := id hL
    subst hsh
    refine code_loop (fun m σ' I' δ' => ∃ n : Nat, m = L.length - n ∧ n ≤ L.length ∧ σ' = [(1, .slice da d.length dc), (3, .int .i64 k), (9, .slice a34 (0 + i + (c.length - (i + 1))) c34), (10, .slice lA L.length lC), (11, .int .i64 n)] ∧ I43.le I' ∧ δ' = [] ∧ ∀ j (h : j < L.length), j < n → ¬ SubB L[j] d ((freeU d.length).set k true) (c.eraseIdx i)) L.length [(1, .slice da d.length dc), (3, .int .i64 k), (9, .slice a34 (0 + i + (c.length - (i + 1))) c34), (10, .slice lA L.length lC), (11, .int .i64 (0 : Nat))] ⟨0, rfl, Nat.zero_le _, rfl, Imm.le_refl _, rfl, fun j _ h => by omega⟩ ⟨rfl, rfl, rfl, rfl, rfl, trivial⟩ ?_
    rintro m _ I1 _ ⟨n, rfl, hn, rfl, hI1, rfl, hno1⟩
    refine code_seq ?_
    refine code_seq ?_
    refine code_region ?_
    refine op_v (v_move rfl) rfl ?_
    refine op_v (v_move rfl) rfl ?_
    refine op_v (v_len Try.underlying133 rfl) rfl ?_
    refine op_v (v_cmp rfl rfl rfl) rfl ?_
    refine ops_nil ?_
    refine post_next ?_
    refine code_cond rfl (fun hc1 => ?_) (fun hc1 => ?_)
    · have hltn : n < L.length := by have h := hc1; simp at h; omega
      obtain ⟨_, ⟨vb, rfl, hvb⟩, hatl⟩ := hrowl.cellsAt hcelll hltn
      obtain ⟨sb, sbc, rfl⟩ := hvb.shape
      have hs3 := hatl.isSome
      have hLsi := hLs _ (List.getElem_mem hltn)
      have hku : k < (freeU d.length).length := by simpa [freeU] using hk
      refine code_skip ?_
      refine post_next ?_
      refine code_seq ?_
      refine code_block ?_
      refine code_seq ?_
      refine code_region ?_
      refine op_v (v_move rfl) rfl ?_
      refine op_v (v_len Try.underlying26 rfl) rfl ?_
      refine o_makeSlice (z := .bool false) (size := 1) (bytes := 1) (xs := (freeU d.length).map Value.bool) Try.underlying82 (by kernel_rfl) rfl rfl rfl (by omega) (by omega) (by rw [Nat.mul_one]; exact (madeCells_one _ _).trans (by simp [freeU])) (fun g52 => ?_)
      refine op_v (v_assign rfl) rfl ?_
      refine ops_nil ?_
      refine post_next ?_
      refine code_seq ?_
      refine code_region ?_
      have hgs : (some (⟨g52, 0, none⟩ : Addr)).isSome = true := rfl
      refine op_v (v_move rfl) rfl ?_
      refine op_v (v_move rfl) rfl ?_
      refine op_v (v_indexA Try.underlying82 sz4 rfl rfl) rfl ?_
      refine o_storeRow (xs' := ((freeU d.length).set k true).map Value.bool) ty4 rfl rfl rfl rfl rfl rfl (by simp [cellsL, freeU]) Swap.here (by rw [List.map_set, Nat.mul_one]; exact stL_one (x := .bool (freeU d.length)[k]) (by rw [List.getElem?_map, List.getElem?_eq_getElem hku]; rfl)) ?_
      refine ops_nil ?_
      refine post_next ?_
      refine code_seq ?_
      refine code_region ?_
      refine OpsJ.freezeRow Del.here ?_
      rintro I52 a52 c52 hI52 hq hc52 hl52 hcells52
      cases hq
      have hun : RepE BoE I52 (.slice (some ⟨g52, 0, none⟩) d.length d.length) ((freeU d.length).set k true) := ⟨some ⟨g52, 0, none⟩, d.length, ((freeU d.length).set k true).map Value.bool, by simp [freeU], by simp [freeU], by simp [freeU]; omega, hcells52, rowBo _⟩
      refine op_v (v_move rfl) rfl ?_
      refine op_v (v_move rfl) rfl ?_
      refine op_v (v_move rfl) rfl ?_
      refine op_v (v_move rfl) rfl ?_
      refine op_v (v_move rfl) rfl ?_
      refine op_v (v_indexA Try.underlying133 sz51 rfl rfl) rfl ?_
      refine op_v (v_loadI0 ty51 (hatl.mono Imm.leA) rfl rfl rfl) rfl ?_
      refine op_call pl71 rfl rfl ((match_does hsd (c.eraseIdx i) hser ((freeU d.length).set k true) _ _ _ _ L[n] (by simp [freeU]) (hrest.mono Imm.leA) (hd.mono Imm.leA) (hun.mono Imm.leA) (hvb.mono Imm.leA) hLsi.1 (by have h1 := hLsi.2; rw [← hlen]; simp only [List.length_nil] at h1; omega))) Parts.none ?_
      rintro v63 I63 _ hI63 ⟨⟨q63, rfl, hq63⟩, rfl⟩
      refine ops_nil ?_
      refine post_next ?_
      refine code_cond rfl (fun hc2 => ?_) (fun hc2 => ?_)
      · have hq : q63 = true := hc2
        refine code_seq ?_
        refine code_region ?_
        refine op_v (v_assign rfl) rfl ?_
        refine ops_nil ?_
        refine post_next ?_
        refine code_ret ?_
        refine post_ret_block ?_
        refine post_ret_then ?_
        refine post_ret_then ?_
        refine post_ret_block ?_
        refine post_ret_then ?_
        refine post_ret (rs := [.tmp 8]) rfl (List.Perm.refl _) (.cons (.tmp rfl) .nil) (List.nil_sublist _) ?_
        exact ⟨⟨true, rfl, by simp only [true_iff]; obtain ⟨θ, e1, e3⟩ := hq63.1 hq; obtain ⟨_, e5⟩ := (hLi θ).2 ⟨_, List.getElem_mem hltn, e1⟩; exact ⟨hi, hk, h23, θ, e5, e3⟩⟩, rfl⟩
      · have hq : ¬ q63 = true := by rw [hc2]; simp
        refine code_skip ?_
        refine post_out ?_
        refine post_next ?_
        refine code_region ?_
        refine op_v (v_move rfl) rfl ?_
        refine op_v (v_addb rfl rfl rfl (by omega)) rfl ?_
        refine op_v (v_assign rfl) rfl ?_
        refine ops_nil ?_
        refine post_again (L.length - (n + 1)) [(1, .slice da d.length dc), (3, .int .i64 k), (9, .slice a34 (0 + i + (c.length - (i + 1))) c34), (10, .slice lA L.length lC), (11, .int .i64 (n + 1 : Nat))] (by omega) ⟨n + 1, rfl, hltn, rfl, Imm.leA, rfl, fun j h hj => ?_⟩ ⟨rfl, rfl, rfl, rfl, rfl, trivial⟩
        rcases Nat.lt_or_ge j n with q | q
        · exact hno1 j h q
        · have e : j = n := by omega
          subst e; exact fun hs => hq (hq63.2 hs)
    · have hge : n = L.length := by have h := hc1; simp at h; omega
      refine code_exit ?_
      refine post_exit_then ?_
      refine post_exit_then ?_
      refine post_exit ?_
      refine post_next ?_
      refine code_seq ?_
      refine code_region ?_
      refine op_v (v_assign rfl) rfl ?_
      refine ops_nil ?_
      refine post_next ?_
      refine code_ret ?_
      refine post_ret (rs := [.tmp 8]) rfl (List.Perm.refl _) (.cons (.tmp rfl) .nil) (List.nil_sublist _) ?_
      exact ⟨⟨false, rfl, by simp only [Bool.false_eq_true, false_iff]; rintro ⟨_, _, _, θ, e2, e3⟩; obtain ⟨b, hb, he⟩ := (hLi θ).1 ⟨Ext_nil θ, e2⟩; obtain ⟨j, hj, rfl⟩ := List.getElem_of_mem hb; exact hno1 j hj (by omega) ⟨θ, he, e3⟩⟩, rfl⟩
theorem RCut_does {I : Imm} {vc vd : Value} {c d : List Li} (hc : RepC I vc c) (hd : RepC I vd d) (hsc : SmM c) (hsd : SmM d) :
    Does Try.prog 27 [vc, vd] I [] (fun v I' δ' => CutR c d v ∧ δ' = []) := by
  obtain ⟨ca, cc, hsh⟩ := RepE.shape hc
  subst hsh
  obtain ⟨da, dc, hsh⟩ := RepE.shape hd
  subst hsh
  have hsc1 : SmC c := fun x hx => by have := hsc x hx; omega
  have hsd1 : SmC d := fun x hx => by have := hsd x hx; omega
  refine Does.intro Try.func27 rfl Try.ntmps27 rfl fun w0 => ?_
  refine code_seq ?_
  refine code_region ?_
  refine op_v (v_assign rfl) rfl ?_
  refine op_v (v_assign rfl) rfl ?_
  refine op_v (v_assign rfl) rfl ?_
  refine ops_nil ?_
  refine post_next ?_
  refine code_seq ?_
  refine code_region ?_
  refine op_v (v_move rfl) rfl ?_
  refine op_v (v_move rfl) rfl ?_
  refine op_call pl70 rfl rfl ((Rwrong15_does hc hd hsc1 hsd1)) Parts.none ?_
  rintro v12 I12 _ hI12 ⟨rfl, rfl⟩
  refine op_v (v_assign rfl) rfl ?_
  refine ops_nil ?_
  refine post_next ?_
  refine code_seq ?_
  refine code_seq ?_
  refine code_region ?_
  refine op_v (v_move rfl) rfl ?_
  by_cases h14 : wrE c d ≠ 0
  · refine op_v (v_cmptA rfl rfl rfl) rfl ?_
    refine ops_nil ?_
    refine post_next ?_
    refine code_cond_t rfl ?_
    refine code_seq ?_
    refine code_region ?_
    refine op_v (v_move rfl) rfl ?_
    refine op_v (v_assign rfl) rfl ?_
    refine op_v (v_assign rfl) rfl ?_
    refine op_v (v_assign rfl) rfl ?_
    refine ops_nil ?_
    refine post_next ?_
    refine code_ret ?_
    refine post_ret_then ?_
    refine post_ret (rs := [.tmp 4, .tmp 5, .tmp 6]) rfl (List.Perm.refl _) (.cons (.tmp rfl) (.cons (.tmp rfl) (.cons (.tmp rfl) .nil))) (List.nil_sublist _) ?_
    exact ⟨.inl ⟨h14, rfl⟩, rfl⟩
  · have h0 : wrE c d = 0 := Classical.not_not.1 h14
    obtain ⟨hlc, hld, _, _⟩ := wrE_ok h0
    refine op_v (v_cmpfA rfl rfl rfl) rfl ?_
    refine ops_nil ?_
    refine post_next ?_
    refine code_cond_f rfl ?_
    refine code_skip ?_
    refine post_next ?_
    refine code_seq ?_
    refine code_seq ?_
    refine code_region ?_
    refine op_v (v_assign rfl) rfl ?_
    refine ops_nil ?_
    refine post_next ?_
    refine code_block ?_
    refine code_loop (fun m σ' I' δ' => ∃ k : Nat, m = d.length - k ∧ k ≤ d.length ∧ σ' = [(0, .slice ca c.length cc), (1, .slice da d.length dc), (8, .int .i64 k)] ∧ I12.le I' ∧ δ' = [] ∧ ∀ j, j < k → ∀ i, ¬ CutP c d i j) d.length [(0, .slice ca c.length cc), (1, .slice da d.length dc), (8, .int .i64 (0 : Nat))] ⟨0, rfl, Nat.zero_le _, rfl, Imm.le_refl _, rfl, fun j h => by omega⟩ ⟨rfl, rfl, rfl, trivial⟩ ?_
    rintro m _ I0 _ ⟨k, rfl, hk, rfl, hI0, rfl, hno⟩
    refine code_seq ?_
    refine code_seq ?_
    refine code_region ?_
    refine op_v (v_move rfl) rfl ?_
    refine op_v (v_move rfl) rfl ?_
    refine op_v (v_len Try.underlying26 rfl) rfl ?_
    refine op_v (v_cmp rfl rfl rfl) rfl ?_
    refine ops_nil ?_
    refine post_next ?_
    refine code_cond rfl (fun hc1 => ?_) (fun hc1 => ?_)
    · have hlt : k < d.length := by simpa using hc1
      refine code_skip ?_
      refine post_next ?_
      refine code_seq ?_
      refine code_block ?_
      refine code_seq ?_
      refine code_region ?_
      refine op_v (v_assign rfl) rfl ?_
      refine ops_nil ?_
      refine post_next ?_
      refine code_block ?_
      refine code_loop (fun m σ' I' δ' => ∃ i : Nat, m = c.length - i ∧ i ≤ c.length ∧ σ' = [(0, .slice ca c.length cc), (1, .slice da d.length dc), (8, .int .i64 k), (9, .int .i64 i)] ∧ I0.le I' ∧ δ' = [] ∧ ∀ j, j < i → ¬ CutP c d j k) c.length [(0, .slice ca c.length cc), (1, .slice da d.length dc), (8, .int .i64 k), (9, .int .i64 (0 : Nat))] ⟨0, rfl, Nat.zero_le _, rfl, Imm.le_refl _, rfl, fun j h => by omega⟩ ⟨rfl, rfl, rfl, rfl, trivial⟩ ?_
      rintro m _ I1 _ ⟨i, rfl, hi, rfl, hI1, rfl, hno1⟩
      refine code_seq ?_
      refine code_seq ?_
      refine code_region ?_
      refine op_v (v_move rfl) rfl ?_
      refine op_v (v_move rfl) rfl ?_
      refine op_v (v_len Try.underlying26 rfl) rfl ?_
      refine op_v (v_cmp rfl rfl rfl) rfl ?_
      refine ops_nil ?_
      refine post_next ?_
      refine code_cond rfl (fun hc2 => ?_) (fun hc2 => ?_)
      · have hlti : i < c.length := by have h := hc2; simp at h; omega
        refine code_skip ?_
        refine post_next ?_
        refine code_seq ?_
        refine code_block ?_
        refine code_seq ?_
        refine code_region ?_
        refine op_v (v_move rfl) rfl ?_
        refine op_v (v_move rfl) rfl ?_
        refine op_v (v_move rfl) rfl ?_
        refine op_v (v_move rfl) rfl ?_
        refine op_call pl72 rfl rfl ((cut15_does (hc.mono Imm.leA) (hd.mono Imm.leA) hsc hsd hlc hld hlti hlt)) Parts.none ?_
        rintro v32 I32 _ hI32 ⟨⟨q32, rfl, hq32⟩, rfl⟩
        refine ops_nil ?_
        refine post_next ?_
        refine code_cond rfl (fun hc3 => ?_) (fun hc3 => ?_)
        · have hq : q32 = true := hc3
          refine code_seq ?_
          refine code_region ?_
          refine op_v (v_move rfl) rfl ?_
          refine op_v (v_assign rfl) rfl ?_
          refine op_v (v_assign rfl) rfl ?_
          refine op_v (v_assign rfl) rfl ?_
          refine ops_nil ?_
          refine post_next ?_
          refine code_ret ?_
          refine post_ret_block ?_
          refine post_ret_then ?_
          refine post_ret_then ?_
          refine post_ret_block ?_
          refine post_ret_block ?_
          refine post_ret_then ?_
          refine post_ret_then ?_
          refine post_ret_block ?_
          refine post_ret_then ?_
          refine post_ret (rs := [.tmp 4, .tmp 5, .tmp 6]) rfl (List.Perm.refl _) (.cons (.tmp rfl) (.cons (.tmp rfl) (.cons (.tmp rfl) .nil))) (List.nil_sublist _) ?_
          exact ⟨.inr (.inr ⟨h0, k, i, hq32.1 hq, hno, rfl⟩), rfl⟩
        · have hq : ¬ q32 = true := by rw [hc3]; simp
          refine code_skip ?_
          refine post_out ?_
          refine post_next ?_
          refine code_region ?_
          refine op_v (v_move rfl) rfl ?_
          refine op_v (v_addb rfl rfl rfl (by omega)) rfl ?_
          refine op_v (v_assign rfl) rfl ?_
          refine ops_nil ?_
          refine post_again (c.length - (i + 1)) [(0, .slice ca c.length cc), (1, .slice da d.length dc), (8, .int .i64 k), (9, .int .i64 (i + 1 : Nat))] (by omega) ⟨i + 1, rfl, hlti, rfl, Imm.leA, rfl, fun j hj => ?_⟩ ⟨rfl, rfl, rfl, rfl, trivial⟩
          rcases Nat.lt_or_ge j i with q | q
          · exact hno1 j q
          · have e : j = i := by omega
            subst e; exact fun hs => hq (hq32.2 hs)
      · have hgei : i = c.length := by have h := hc2; simp at h; omega
        refine code_exit ?_
        refine post_exit_then ?_
        refine post_exit_then ?_
        refine post_exit ?_
        refine post_out ?_
        refine post_next ?_
        refine code_region ?_
        refine op_v (v_move rfl) rfl ?_
        refine op_v (v_addb rfl rfl rfl (by omega)) rfl ?_
        refine op_v (v_assign rfl) rfl ?_
        refine ops_nil ?_
        refine post_again (d.length - (k + 1)) [(0, .slice ca c.length cc), (1, .slice da d.length dc), (8, .int .i64 (k + 1 : Nat))] (by omega) ⟨k + 1, rfl, hlt, rfl, Imm.leA, rfl, fun j hj i' hP => ?_⟩ ⟨rfl, rfl, rfl, trivial⟩
        rcases Nat.lt_or_ge j k with q | q
        · exact hno j q i' hP
        · have e : j = k := by omega
          subst e
          exact hno1 i' (by obtain ⟨h, _⟩ := hP; omega) hP
    · have hge : k = d.length := by simp at hc1; omega
      refine code_exit ?_
      refine post_exit_then ?_
      refine post_exit_then ?_
      refine post_exit ?_
      refine post_next ?_
      refine code_seq ?_
      refine code_region ?_
      refine op_v (v_assign rfl) rfl ?_
      refine op_v (v_assign rfl) rfl ?_
      refine op_v (v_assign rfl) rfl ?_
      refine ops_nil ?_
      refine post_next ?_
      refine code_ret ?_
      refine post_ret (rs := [.tmp 4, .tmp 5, .tmp 6]) rfl (List.Perm.refl _) (.cons (.tmp rfl) (.cons (.tmp rfl) (.cons (.tmp rfl) .nil))) (List.nil_sublist _) ?_
      exact ⟨.inr (.inl ⟨h0, fun i k' hP => hno k' (by obtain ⟨_, h, _⟩ := hP; omega) i hP, rfl⟩), rfl⟩
end Go.Proofs.Ytdbadicpbmndbaa
/- Walks: a clause's variables; two clauses side by side; the example of the chapter on clauses. -/
set_option linter.unusedVariables false
set_option linter.unusedSimpArgs false
set_option linter.unnecessarySimpa false
/- short -/
namespace Go.Proofs.Ytdbadicpbmndbaa
open Go Lg

def xv10 : T := .mk (-4) []
def fx10 : T := .mk 2 [xv10]
def A10 : Li := ⟨false, a9, fx10⟩
def N10 : Li := ⟨true, xv10, xv10⟩
def B10 : Li := ⟨false, fx10, a9⟩
def c10 : List Li := [A10, N10, B10]
end Go.Proofs.Ytdbadicpbmndbaa
/- Walks: few; the example of the chapter on subsumption. -/
set_option linter.unusedVariables false
set_option linter.unusedSimpArgs false
set_option linter.unnecessarySimpa false
/- short -/
namespace Go.Proofs.Ytdbadicpbmndbaa
open Go Lg

theorem RFew15_does {I : Imm} {v : Value} {c : List Li} (hv : RepC I v c) :
    Does Try.prog 23 [v] I [] (fun v I' δ' => (∃ b, v = .bool b ∧ (b = true → FewC c)) ∧ δ' = []) := by
  obtain ⟨ca, cc, hsh⟩ := RepE.shape hv
  subst hsh
  have hb := hv.small
  refine Does.intro Try.func23 rfl Try.ntmps23 rfl fun w0 => ?_
  refine code_seq ?_
  refine code_region ?_
  refine op_v (v_assign rfl) rfl ?_
  refine ops_nil ?_
  refine post_next ?_
  refine code_seq ?_
  refine code_region ?_
  refine op_v (v_move rfl) rfl ?_
  refine op_call pl28 rfl rfl ((Few10_does hv)) Parts.none ?_
  rintro v4 I4 _ hI4 ⟨⟨b4, rfl, hb4⟩, rfl⟩
  by_cases h5 : b4 = true
  · subst h5
    refine op_v (v_move rfl) rfl ?_
    refine op_want rfl rfl ?_
    refine op_v (v_move rfl) rfl ?_
    refine op_want rfl rfl ?_
    refine op_v (v_len Try.underlying26 rfl) rfl ?_
    by_cases h8 : c.length ≤ 6
    · refine op_want rfl rfl ?_
      refine op_v (v_cmpt rfl rfl rfl (by omega)) rfl ?_
      refine op_want rfl rfl ?_
      refine op_v (v_move rfl) rfl ?_
      refine op_skip rfl rfl (by simp [undef]) rfl ?_
      refine op_skip rfl rfl (by simp [undef]) rfl ?_
      refine op_skip rfl rfl (by simp [undef]) rfl ?_
      first
        | (refine op_want rfl rfl ?_
           refine op_v (v_pickt rfl rfl) rfl ?_)
        | (refine op_skip rfl rfl (by simp [undef]) rfl ?_)
      refine op_v (v_pickt rfl rfl) rfl ?_
      refine op_v (v_assign rfl) rfl ?_
      refine ops_nil ?_
      refine post_next ?_
      refine code_ret ?_
      refine post_ret (rs := [.tmp 2]) rfl (List.Perm.refl _) (.cons (.tmp rfl) .nil) (List.nil_sublist _) ?_
      exact ⟨⟨true, rfl, hb4⟩, rfl⟩
    · refine op_want rfl rfl ?_
      refine op_v (v_cmpf rfl rfl rfl (by omega)) rfl ?_
      refine op_want rfl rfl ?_
      refine op_v (v_move rfl) rfl ?_
      refine op_want rfl rfl ?_
      refine op_v (v_move rfl) rfl ?_
      refine op_want rfl rfl ?_
      refine op_v (v_len Try.underlying26 rfl) rfl ?_
      by_cases h12 : 32 < c.length
      · refine op_want rfl rfl ?_
        refine op_v (v_cmpt rfl rfl rfl (by omega)) rfl ?_
        first
          | (refine op_want rfl rfl ?_
             refine op_v (v_pickf rfl rfl) rfl ?_)
          | (refine op_skip rfl rfl (by simp [undef]) rfl ?_)
        refine op_v (v_pickt rfl rfl) rfl ?_
        refine op_v (v_assign rfl) rfl ?_
        refine ops_nil ?_
        refine post_next ?_
        refine code_ret ?_
        refine post_ret (rs := [.tmp 2]) rfl (List.Perm.refl _) (.cons (.tmp rfl) .nil) (List.nil_sublist _) ?_
        exact ⟨⟨true, rfl, hb4⟩, rfl⟩
      · refine op_want rfl rfl ?_
        refine op_v (v_cmpf rfl rfl rfl (by omega)) rfl ?_
        first
          | (refine op_want rfl rfl ?_
             refine op_v (v_pickf rfl rfl) rfl ?_)
          | (refine op_skip rfl rfl (by simp [undef]) rfl ?_)
        refine op_v (v_pickt rfl rfl) rfl ?_
        refine op_v (v_assign rfl) rfl ?_
        refine ops_nil ?_
        refine post_next ?_
        refine code_ret ?_
        refine post_ret (rs := [.tmp 2]) rfl (List.Perm.refl _) (.cons (.tmp rfl) .nil) (List.nil_sublist _) ?_
        exact ⟨⟨false, rfl, fun h => by cases h⟩, rfl⟩
  · have h5' : b4 = false := by simpa using h5
    subst h5'
    refine op_v (v_move rfl) rfl ?_
    refine op_skip rfl rfl (by simp [undef]) rfl ?_
    refine op_skip rfl rfl (by simp [undef]) rfl ?_
    refine op_skip rfl rfl (by simp [undef]) rfl ?_
    refine op_skip rfl rfl (by simp [undef]) rfl ?_
    refine op_skip rfl rfl (by simp [undef]) rfl ?_
    refine op_skip rfl rfl (by simp [undef]) rfl ?_
    refine op_skip rfl rfl (by simp [undef]) rfl ?_
    refine op_skip rfl rfl (by simp [undef]) rfl ?_
    refine op_v (v_pickf rfl rfl) rfl ?_
    refine op_v (v_assign rfl) rfl ?_
    refine ops_nil ?_
    refine post_next ?_
    refine code_ret ?_
    refine post_ret (rs := [.tmp 2]) rfl (List.Perm.refl _) (.cons (.tmp rfl) .nil) (List.nil_sublist _) ?_
    exact ⟨⟨false, rfl, fun h => by cases h⟩, rfl⟩
theorem few15_does {I : Imm} {va vb : Value} {c d : List Li} (ha : RepC I va c) (hb : RepC I vb d) :
    Does Try.prog 13 [va, vb] I [] (fun v I' δ' => (∃ b, v = .bool b ∧ (b = true → FewC c ∧ FewC d)) ∧ δ' = []) := by
  refine Does.intro Try.func13 rfl Try.ntmps13 rfl fun w0 => ?_
  refine code_seq ?_
  refine code_region ?_
  refine op_v (v_assign rfl) rfl ?_
  refine ops_nil ?_
  refine post_next ?_
  refine code_seq ?_
  refine code_region ?_
  refine op_v (v_move rfl) rfl ?_
  refine op_call pl23 rfl rfl ((RFew15_does ha)) Parts.none ?_
  rintro v6 I6 _ hI6 ⟨⟨b6, rfl, hb6⟩, rfl⟩
  by_cases h7 : b6 = true
  · subst h7
    refine op_v (v_move rfl) rfl ?_
    refine op_want rfl rfl ?_
    refine op_v (v_move rfl) rfl ?_
    refine op_want rfl rfl ?_
    refine op_call pl23 rfl rfl ((RFew15_does (hb.mono Imm.leA))) Parts.none ?_
    rintro v9 I9 _ hI9 ⟨⟨b9, rfl, hb9⟩, rfl⟩
    refine op_v (v_pickt rfl rfl) rfl ?_
    refine op_v (v_assign rfl) rfl ?_
    refine ops_nil ?_
    refine post_next ?_
    refine code_ret ?_
    refine post_ret (rs := [.tmp 4]) rfl (List.Perm.refl _) (.cons (.tmp rfl) .nil) (List.nil_sublist _) ?_
    exact ⟨⟨b9, rfl, fun h => ⟨hb6 rfl, hb9 h⟩⟩, rfl⟩
  · have h7' : b6 = false := by simpa using h7
    subst h7'
    refine op_v (v_move rfl) rfl ?_
    refine op_skip rfl rfl (by simp [undef]) rfl ?_
    refine op_skip rfl rfl (by simp [undef]) rfl ?_
    refine op_v (v_pickf rfl rfl) rfl ?_
    refine op_v (v_assign rfl) rfl ?_
    refine ops_nil ?_
    refine post_next ?_
    refine code_ret ?_
    refine post_ret (rs := [.tmp 4]) rfl (List.Perm.refl _) (.cons (.tmp rfl) .nil) (List.nil_sublist _) ?_
    exact ⟨⟨false, rfl, fun h => by cases h⟩, rfl⟩
def q15 (n : Bool) (t : T) : Li := ⟨n, .mk 3 [t], .mk 0 []⟩
theorem aw1_does {I : Imm} {n : Bool} {v : Value} {t : T} (hv : RepT I v t) :
    Does Try.prog 63 [.bool n, v] I [] (fun v I' δ' => RepL I' v (q15 n t) ∧ δ' = []) := by
  obtain ⟨ta, tc, rfl, _⟩ := hv.shape
  refine Does.intro Try.func63 rfl Try.ntmps63 rfl fun w0 => ?_
  refine code_seq ?_
  refine code_region ?_
  refine o_box rfl rfl rfl (fun b3 => ?_)
  refine o_alloc z49 rfl rfl (fun b4 => ?_)
  refine ops_nil ?_
  refine post_next ?_
  refine code_seq ?_
  refine code_region ?_
  refine op_v (v_move rfl) rfl ?_
  refine op_v (v_loadA ty47 rfl rfl) rfl ?_
  refine o_buildSlice (xs := [(Go.Operand.tmp 6)]) Try.underlying45 bs47 rfl rfl rfl rfl rfl (fun b7 => ?_)
  refine OpsJ.freezeRow Del.here ?_
  rintro I7 a7 c7 hI7 hq hc7 hl7 hcells7
  cases hq
  refine op_call pl62 rfl rfl ((Fun_does (by unfold InR; omega) (RowT.repS (ts := [t]) rfl hcells7 (RowT.one (hv.mono Imm.leA)) hc7 (by omega)))) Parts.none ?_
  rintro v8 I8 _ hI8 ⟨hv8, rfl⟩
  obtain ⟨a8, c8, rfl, _⟩ := hv8.shape
  refine op_call pl62 rfl rfl ((Fun_does (by unfold InR; omega) (RepS.nil _))) Parts.none ?_
  rintro v9 I9 _ hI9 ⟨hv9, rfl⟩
  obtain ⟨a9, c9, rfl, _⟩ := hv9.shape
  refine op_v (v_build (cs := liC (q15 n t) a8 c8 a9 c9) bl49 rfl rfl) rfl ?_
  refine o_store ty49 rfl rfl rfl rfl rfl (by repeat (first | exact Swap.here | apply Swap.there)) rfl ?_
  refine ops_nil ?_
  refine post_next ?_
  refine code_ret ?_
  refine post_ret (rs := [.cell 4 49]) rfl (List.Perm.refl _) (.cons (.cell rfl ty49 (by repeat (first | exact Has.here | apply Has.there)) rfl) .nil) (List.nil_sublist _) ?_
  exact ⟨⟨a8, c8, a9, c9, rfl, hv8.mono Imm.leA, hv9.mono Imm.leA⟩, rfl⟩
def x15 : T := .mk (-1) []
def a15 : T := .mk 1 []
def b15 : T := .mk 4 []
def f15 : T := .mk 2 [a15]
def c15 : List Li := [q15 false x15]
def d15 : List Li := [q15 false f15, ⟨false, a15, b15⟩]
def e15 : List Li := [q15 true x15, ⟨false, x15, a15⟩]
def g15 : List Li := [q15 false b15, ⟨false, a15, b15⟩, q15 false a15]
theorem c15_sm : SmM c15 := by unfold SmM; decide +kernel
theorem d15_sm : SmM d15 := by unfold SmM; decide +kernel
theorem e15_sm : SmM e15 := by unfold SmM; decide +kernel
theorem g15_sm : SmM g15 := by unfold SmM; decide +kernel
theorem cd15 : wrE c15 d15 = 0 := by decide +kernel
theorem eg15 : wrE e15 g15 = 0 := by decide +kernel
theorem cd15_sub : Sub c15 d15 := ⟨fun _ => f15, 0, by decide, rfl, rfl, ⟨by decide +kernel, .inl ⟨by decide +kernel, by decide +kernel⟩⟩, trivial⟩
theorem eg15_cut : CutR e15 g15 (.tuple #[.int .i64 0, .bool true, .int .i64 0]) :=
  .inr (.inr ⟨eg15, 0, 0, ⟨by decide, by decide, by decide, fun _ => b15, ⟨by decide +kernel, .inl ⟨by decide +kernel, by decide +kernel⟩⟩, 1, by decide, rfl, rfl, ⟨by decide +kernel, .inr ⟨by decide +kernel, by decide +kernel⟩⟩, trivial⟩, fun j h => by omega, rfl⟩)
theorem awake15_does (I : Imm) :
    Does Try.prog 18 [] I [] (fun v I' δ' => v = .bool true ∧ δ' = []) := by
  refine Does.intro Try.func18 rfl Try.ntmps18 rfl fun w0 => ?_
  refine code_seq ?_
  refine code_region ?_
  refine op_v (v_assign rfl) rfl ?_
  refine ops_nil ?_
  refine post_next ?_
  refine code_seq ?_
  refine code_region ?_
  refine op_call pl61 rfl rfl ((Var_does (by omega) (by omega))) Parts.none ?_
  rintro v10 I10 _ hI10 ⟨hv10, rfl⟩
  change RepT I10 v10 x15 at hv10
  obtain ⟨a10, c10, rfl, _⟩ := hv10.shape
  refine o_alloc z47 rfl rfl (fun b1 => ?_)
  refine o_store ty47 rfl rfl rfl rfl rfl (by repeat (first | exact Swap.here | apply Swap.there)) rfl ?_
  refine ops_nil ?_
  refine post_next ?_
  refine code_seq ?_
  refine code_region ?_
  refine op_call pl62 rfl rfl ((Fun_does (by unfold InR; omega) (RepS.nil _))) Parts.none ?_
  rintro v11 I11 _ hI11 ⟨hv11, rfl⟩
  change RepT I11 v11 a15 at hv11
  obtain ⟨a11, c11, rfl, _⟩ := hv11.shape
  refine o_alloc z47 rfl rfl (fun b2 => ?_)
  refine o_store ty47 rfl rfl rfl rfl rfl (by repeat (first | exact Swap.here | apply Swap.there)) rfl ?_
  refine ops_nil ?_
  refine post_next ?_
  refine code_seq ?_
  refine code_region ?_
  refine op_call pl62 rfl rfl ((Fun_does (by unfold InR; omega) (RepS.nil _))) Parts.none ?_
  rintro v12 I12 _ hI12 ⟨hv12, rfl⟩
  change RepT I12 v12 b15 at hv12
  obtain ⟨a12, c12, rfl, _⟩ := hv12.shape
  refine o_alloc z47 rfl rfl (fun b3 => ?_)
  refine o_store ty47 rfl rfl rfl rfl rfl (by repeat (first | exact Swap.here | apply Swap.there)) rfl ?_
  refine ops_nil ?_
  refine post_next ?_
  refine code_seq ?_
  refine code_region ?_
  refine op_v (v_assign rfl) rfl ?_
  refine ops_nil ?_
  refine post_next ?_
  refine code_seq_meet (fun σ' I' δ' => σ' = [(1, .pointer (some ⟨b1, 0, none⟩)), (2, .pointer (some ⟨b2, 0, none⟩)), (3, .pointer (some ⟨b3, 0, none⟩)), (4, .func (.func 63) #[] #[]), (5, .bool true), (6, .int .i64 0)] ∧ I12.le I' ∧ δ' = [.box b3 47 [.int .i64 b15.head, .slice a12 b15.args.length c12], .box b2 47 [.int .i64 a15.head, .slice a11 a15.args.length c11], .box b1 47 [.int .i64 x15.head, .slice a10 x15.args.length c10]]) ?_ ?_
  · refine code_draw (.fl 0 (.fl 1 (.fl 4 (.fl 5 (.fl 9 (.fl 10 (.fl 11 (.two 2 6 (.two 3 6 (.ef 6 (.ef 7 (.ef 8 (.ef 12 (.ef 13 (.fl 14 (.fl 15 (.fl 16 (.ef 17 (.ef 18 .done)))))))))) (.two 3 7 (.ef 7 (.ef 8 (.ef 12 (.ef 13 (.fl 14 (.fl 15 (.fl 16 (.ef 17 (.ef 18 .done))))))))) (.two 3 8 (.ef 8 (.ef 12 (.ef 13 (.fl 14 (.fl 15 (.fl 16 (.ef 17 (.ef 18 .done)))))))) (.two 3 12 (.ef 12 (.ef 13 (.fl 14 (.fl 15 (.fl 16 (.ef 17 (.ef 18 .done))))))) (.ef 3 (.ef 13 (.fl 14 (.fl 15 (.fl 16 (.ef 17 (.ef 18 .done))))))))))) (.ef 2 (.two 3 7 (.ef 7 (.ef 8 (.ef 12 (.ef 13 (.fl 14 (.fl 15 (.fl 16 (.ef 17 (.ef 18 .done))))))))) (.two 3 8 (.ef 8 (.ef 12 (.ef 13 (.fl 14 (.fl 15 (.fl 16 (.ef 17 (.ef 18 .done)))))))) (.two 3 12 (.ef 12 (.ef 13 (.fl 14 (.fl 15 (.fl 16 (.ef 17 (.ef 18 .done))))))) (.ef 3 (.ef 13 (.fl 14 (.fl 15 (.fl 16 (.ef 17 (.ef 18 .done))))))))))))))))))) (fun _ => _) mixed (by kernel_rfl) (by kernel_rfl) (fun _ => (List.Sublist.refl _)) ?_
    refine e_fl rfl rfl (fun hs_ => PF.mk rfl (v_move rfl) hs_) ?_
    refine e_fl rfl rfl (fun hs_ => PF.mk rfl (v_loadA ty47 rfl rfl) hs_) ?_
    refine e_fl rfl rfl (fun hs_ => PF.mk rfl (v_move rfl) hs_) ?_
    refine e_fl rfl rfl (fun hs_ => PF.mk rfl (v_loadA ty47 rfl rfl) hs_) ?_
    refine e_fl rfl rfl (fun hs_ => PF.mk rfl (v_loadA ty47 rfl rfl) hs_) ?_
    refine e_fl rfl rfl (fun hs_ => PF.mk rfl (v_loadA ty47 rfl rfl) hs_) ?_
    refine e_fl rfl rfl (fun hs_ => PF.mk rfl (v_build (cs := liC ⟨false, a15, b15⟩ a11 c11 a12 c12) bl49 rfl rfl) hs_) ?_
    refine e_two rfl (by intro cs b hc; cases hc) (by intro c hc; cases hc) rfl (by intro cs b hc; cases hc) (by intro c hc; cases hc) ?_ ?_
    · refine op_fcall rfl rfl rfl ((Does.toF (args := [_, _]) (by kernel_rfl) (aw1_does (hv10.mono Imm.leA)))) Parts.none ?_
      rintro v16 I16 _ hI16 ⟨hv16, rfl⟩
      obtain ⟨xa, xc, ya, yc, rfl, hxl, hxr⟩ := hv16
      refine ops_nil ?_
      refine e_next rfl side_allA ?_
      refine e_two rfl (by intro cs b hc; cases hc) (by intro c hc; cases hc) rfl (by intro cs b hc; cases hc) (by intro c hc; cases hc) ?_ ?_
      · refine o_buildSlice (xs := [(Go.Operand.tmp 16)]) Try.underlying26 bs49 rfl rfl rfl rfl rfl (fun b17 => ?_)
        refine OpsJ.freezeRow Del.here ?_
        rintro I17 a17 c17 hI17 hq hc17 hl17 hcells17
        cases hq
        refine ops_nil ?_
        refine e_next rfl side_allA ?_
        refine e_eff rfl (by intro cs b hc; cases hc) (by intro c hc; cases hc) ?_
        refine o_buildSlice (xs := [(Go.Operand.tmp 19)]) Try.underlying45 bs47 rfl rfl rfl rfl rfl (fun b20 => ?_)
        refine OpsJ.freezeRow Del.here ?_
        rintro I20 a20 c20 hI20 hq hc20 hl20 hcells20
        cases hq
        refine ops_nil ?_
        refine e_next rfl side_allA ?_
        refine e_eff rfl (by intro cs b hc; cases hc) (by intro c hc; cases hc) ?_
        refine op_call pl62 rfl rfl ((Fun_does (by unfold InR; omega) (RowT.repS (ts := [a15]) rfl (hcells20.mono Imm.leA) (RowT.one (hv11.mono Imm.leA)) hc20 (by omega)))) Parts.none ?_
        rintro v21 I21 _ hI21 ⟨hv21, rfl⟩
        change RepT I21 v21 f15 at hv21
        obtain ⟨a21, c21, rfl, _⟩ := hv21.shape
        refine ops_nil ?_
        refine e_next rfl side_allA ?_
        refine e_eff rfl (by intro cs b hc; cases hc) (by intro c hc; cases hc) ?_
        refine op_fcall rfl rfl rfl ((Does.toF (args := [_, _]) (by kernel_rfl) (aw1_does (hv21.mono Imm.leA)))) Parts.none ?_
        rintro v22 I22 _ hI22 ⟨hv22, rfl⟩
        obtain ⟨za, zc, wa, wc, rfl, hzl, hzr⟩ := hv22
        refine ops_nil ?_
        refine e_next rfl side_allA ?_
        refine e_eff rfl (by intro cs b hc; cases hc) (by intro c hc; cases hc) ?_
        refine o_buildSlice (xs := [(Go.Operand.tmp 22), (Go.Operand.tmp 25)]) Try.underlying26 bs49 rfl rfl rfl rfl rfl (fun b26 => ?_)
        refine OpsJ.freezeRow Del.here ?_
        rintro I26 a26 c26 hI26 hq hc26 hl26 hcells26
        cases hq
        refine ops_nil ?_
        refine e_next rfl side_allA ?_
        refine e_eff rfl (by intro cs b hc; cases hc) (by intro c hc; cases hc) ?_
        refine op_call pl16 rfl rfl ((Subsumes_does (c := c15) (d := d15) ⟨some ⟨b17, 0, none⟩, 1, _, rfl, Nat.le_refl _, by decide, hcells17.mono Imm.leA, ⟨_, _, rfl, ⟨xa, xc, ya, yc, rfl, hxl.mono Imm.leA, hxr.mono Imm.leA⟩, rfl⟩⟩ ⟨some ⟨b26, 0, none⟩, 2, _, rfl, Nat.le_refl _, by decide, hcells26.mono Imm.leA, ⟨_, _, rfl, ⟨za, zc, wa, wc, rfl, hzl.mono Imm.leA, hzr.mono Imm.leA⟩, _, _, rfl, ⟨a11, c11, a12, c12, rfl, hv11.mono Imm.leA, hv12.mono Imm.leA⟩, rfl⟩⟩ c15_sm d15_sm)) Parts.none ?_
        rintro v27 I27 _ hI27 ⟨⟨q27, rfl, hq27⟩, rfl⟩
        have hqt : q27 = true := hq27.2 ⟨cd15, cd15_sub⟩
        subst hqt
        rw [cd15]
        refine ops_nil ?_
        refine e_next rfl side_allA ?_
        refine e_fl rfl rfl (fun hs_ => PF.mk rfl (v_move rfl) hs_) ?_
        refine e_fl rfl rfl (fun hs_ => PF.mk rfl (v_extract rfl rfl) hs_) ?_
        refine e_fl rfl rfl (fun hs_ => PF.mk rfl (v_extract rfl rfl) hs_) ?_
        refine e_eff rfl (by intro cs b hc; cases hc) (by intro c hc; cases hc) ?_
        refine op_v (v_assign rfl) rfl ?_
        refine ops_nil ?_
        refine e_next rfl side_allA ?_
        refine e_eff rfl (by intro cs b hc; cases hc) (by intro c hc; cases hc) ?_
        refine op_v (v_assign rfl) rfl ?_
        refine ops_nil ?_
        refine e_next rfl (side_nil (by kernel_rfl)) ?_
        refine e_done ?_
        exact post_meet _ ⟨rfl, Imm.leA, rfl⟩ ⟨rfl, rfl, rfl, rfl, rfl, rfl, trivial⟩
      · refine o_buildSlice (xs := [(Go.Operand.tmp 19)]) Try.underlying45 bs47 rfl rfl rfl rfl rfl (fun b20 => ?_)
        refine OpsJ.freezeRow Del.here ?_
        rintro I20 a20 c20 hI20 hq hc20 hl20 hcells20
        cases hq
        refine ops_nil ?_
        refine e_next rfl side_allA ?_
        refine e_two rfl (by intro cs b hc; cases hc) (by intro c hc; cases hc) rfl (by intro cs b hc; cases hc) (by intro c hc; cases hc) ?_ ?_
        · refine o_buildSlice (xs := [(Go.Operand.tmp 16)]) Try.underlying26 bs49 rfl rfl rfl rfl rfl (fun b17 => ?_)
          refine OpsJ.freezeRow Del.here ?_
          rintro I17 a17 c17 hI17 hq hc17 hl17 hcells17
          cases hq
          refine ops_nil ?_
          refine e_next rfl side_allA ?_
          refine e_eff rfl (by intro cs b hc; cases hc) (by intro c hc; cases hc) ?_
          refine op_call pl62 rfl rfl ((Fun_does (by unfold InR; omega) (RowT.repS (ts := [a15]) rfl (hcells20.mono Imm.leA) (RowT.one (hv11.mono Imm.leA)) hc20 (by omega)))) Parts.none ?_
          rintro v21 I21 _ hI21 ⟨hv21, rfl⟩
          change RepT I21 v21 f15 at hv21
          obtain ⟨a21, c21, rfl, _⟩ := hv21.shape
          refine ops_nil ?_
          refine e_next rfl side_allA ?_
          refine e_eff rfl (by intro cs b hc; cases hc) (by intro c hc; cases hc) ?_
          refine op_fcall rfl rfl rfl ((Does.toF (args := [_, _]) (by kernel_rfl) (aw1_does (hv21.mono Imm.leA)))) Parts.none ?_
          rintro v22 I22 _ hI22 ⟨hv22, rfl⟩
          obtain ⟨za, zc, wa, wc, rfl, hzl, hzr⟩ := hv22
          refine ops_nil ?_
          refine e_next rfl side_allA ?_
          refine e_eff rfl (by intro cs b hc; cases hc) (by intro c hc; cases hc) ?_
          refine o_buildSlice (xs := [(Go.Operand.tmp 22), (Go.Operand.tmp 25)]) Try.underlying26 bs49 rfl rfl rfl rfl rfl (fun b26 => ?_)
          refine OpsJ.freezeRow Del.here ?_
          rintro I26 a26 c26 hI26 hq hc26 hl26 hcells26
          cases hq
          refine ops_nil ?_
          refine e_next rfl side_allA ?_
          refine e_eff rfl (by intro cs b hc; cases hc) (by intro c hc; cases hc) ?_
          refine op_call pl16 rfl rfl ((Subsumes_does (c := c15) (d := d15) ⟨some ⟨b17, 0, none⟩, 1, _, rfl, Nat.le_refl _, by decide, hcells17.mono Imm.leA, ⟨_, _, rfl, ⟨xa, xc, ya, yc, rfl, hxl.mono Imm.leA, hxr.mono Imm.leA⟩, rfl⟩⟩ ⟨some ⟨b26, 0, none⟩, 2, _, rfl, Nat.le_refl _, by decide, hcells26.mono Imm.leA, ⟨_, _, rfl, ⟨za, zc, wa, wc, rfl, hzl.mono Imm.leA, hzr.mono Imm.leA⟩, _, _, rfl, ⟨a11, c11, a12, c12, rfl, hv11.mono Imm.leA, hv12.mono Imm.leA⟩, rfl⟩⟩ c15_sm d15_sm)) Parts.none ?_
          rintro v27 I27 _ hI27 ⟨⟨q27, rfl, hq27⟩, rfl⟩
          have hqt : q27 = true := hq27.2 ⟨cd15, cd15_sub⟩
          subst hqt
          rw [cd15]
          refine ops_nil ?_
          refine e_next rfl side_allA ?_
          refine e_fl rfl rfl (fun hs_ => PF.mk rfl (v_move rfl) hs_) ?_
          refine e_fl rfl rfl (fun hs_ => PF.mk rfl (v_extract rfl rfl) hs_) ?_
          refine e_fl rfl rfl (fun hs_ => PF.mk rfl (v_extract rfl rfl) hs_) ?_
          refine e_eff rfl (by intro cs b hc; cases hc) (by intro c hc; cases hc) ?_
          refine op_v (v_assign rfl) rfl ?_
          refine ops_nil ?_
          refine e_next rfl side_allA ?_
          refine e_eff rfl (by intro cs b hc; cases hc) (by intro c hc; cases hc) ?_
          refine op_v (v_assign rfl) rfl ?_
          refine ops_nil ?_
          refine e_next rfl (side_nil (by kernel_rfl)) ?_
          refine e_done ?_
          exact post_meet _ ⟨rfl, Imm.leA, rfl⟩ ⟨rfl, rfl, rfl, rfl, rfl, rfl, trivial⟩
        · refine op_call pl62 rfl rfl ((Fun_does (by unfold InR; omega) (RowT.repS (ts := [a15]) rfl (hcells20.mono Imm.leA) (RowT.one (hv11.mono Imm.leA)) hc20 (by omega)))) Parts.none ?_
          rintro v21 I21 _ hI21 ⟨hv21, rfl⟩
          change RepT I21 v21 f15 at hv21
          obtain ⟨a21, c21, rfl, _⟩ := hv21.shape
          refine ops_nil ?_
          refine e_next rfl side_allA ?_
          refine e_two rfl (by intro cs b hc; cases hc) (by intro c hc; cases hc) rfl (by intro cs b hc; cases hc) (by intro c hc; cases hc) ?_ ?_
          · refine o_buildSlice (xs := [(Go.Operand.tmp 16)]) Try.underlying26 bs49 rfl rfl rfl rfl rfl (fun b17 => ?_)
            refine OpsJ.freezeRow Del.here ?_
            rintro I17 a17 c17 hI17 hq hc17 hl17 hcells17
            cases hq
            refine ops_nil ?_
            refine e_next rfl side_allA ?_
            refine e_eff rfl (by intro cs b hc; cases hc) (by intro c hc; cases hc) ?_
            refine op_fcall rfl rfl rfl ((Does.toF (args := [_, _]) (by kernel_rfl) (aw1_does (hv21.mono Imm.leA)))) Parts.none ?_
            rintro v22 I22 _ hI22 ⟨hv22, rfl⟩
            obtain ⟨za, zc, wa, wc, rfl, hzl, hzr⟩ := hv22
            refine ops_nil ?_
            refine e_next rfl side_allA ?_
            refine e_eff rfl (by intro cs b hc; cases hc) (by intro c hc; cases hc) ?_
            refine o_buildSlice (xs := [(Go.Operand.tmp 22), (Go.Operand.tmp 25)]) Try.underlying26 bs49 rfl rfl rfl rfl rfl (fun b26 => ?_)
            refine OpsJ.freezeRow Del.here ?_
            rintro I26 a26 c26 hI26 hq hc26 hl26 hcells26
            cases hq
            refine ops_nil ?_
            refine e_next rfl side_allA ?_
            refine e_eff rfl (by intro cs b hc; cases hc) (by intro c hc; cases hc) ?_
            refine op_call pl16 rfl rfl ((Subsumes_does (c := c15) (d := d15) ⟨some ⟨b17, 0, none⟩, 1, _, rfl, Nat.le_refl _, by decide, hcells17.mono Imm.leA, ⟨_, _, rfl, ⟨xa, xc, ya, yc, rfl, hxl.mono Imm.leA, hxr.mono Imm.leA⟩, rfl⟩⟩ ⟨some ⟨b26, 0, none⟩, 2, _, rfl, Nat.le_refl _, by decide, hcells26.mono Imm.leA, ⟨_, _, rfl, ⟨za, zc, wa, wc, rfl, hzl.mono Imm.leA, hzr.mono Imm.leA⟩, _, _, rfl, ⟨a11, c11, a12, c12, rfl, hv11.mono Imm.leA, hv12.mono Imm.leA⟩, rfl⟩⟩ c15_sm d15_sm)) Parts.none ?_
            rintro v27 I27 _ hI27 ⟨⟨q27, rfl, hq27⟩, rfl⟩
            have hqt : q27 = true := hq27.2 ⟨cd15, cd15_sub⟩
            subst hqt
            rw [cd15]
            refine ops_nil ?_
            refine e_next rfl side_allA ?_
            refine e_fl rfl rfl (fun hs_ => PF.mk rfl (v_move rfl) hs_) ?_
            refine e_fl rfl rfl (fun hs_ => PF.mk rfl (v_extract rfl rfl) hs_) ?_
            refine e_fl rfl rfl (fun hs_ => PF.mk rfl (v_extract rfl rfl) hs_) ?_
            refine e_eff rfl (by intro cs b hc; cases hc) (by intro c hc; cases hc) ?_
            refine op_v (v_assign rfl) rfl ?_
            refine ops_nil ?_
            refine e_next rfl side_allA ?_
            refine e_eff rfl (by intro cs b hc; cases hc) (by intro c hc; cases hc) ?_
            refine op_v (v_assign rfl) rfl ?_
            refine ops_nil ?_
            refine e_next rfl (side_nil (by kernel_rfl)) ?_
            refine e_done ?_
            exact post_meet _ ⟨rfl, Imm.leA, rfl⟩ ⟨rfl, rfl, rfl, rfl, rfl, rfl, trivial⟩
          · refine op_fcall rfl rfl rfl ((Does.toF (args := [_, _]) (by kernel_rfl) (aw1_does (hv21.mono Imm.leA)))) Parts.none ?_
            rintro v22 I22 _ hI22 ⟨hv22, rfl⟩
            obtain ⟨za, zc, wa, wc, rfl, hzl, hzr⟩ := hv22
            refine ops_nil ?_
            refine e_next rfl side_allA ?_
            refine e_two rfl (by intro cs b hc; cases hc) (by intro c hc; cases hc) rfl (by intro cs b hc; cases hc) (by intro c hc; cases hc) ?_ ?_
            · refine o_buildSlice (xs := [(Go.Operand.tmp 16)]) Try.underlying26 bs49 rfl rfl rfl rfl rfl (fun b17 => ?_)
              refine OpsJ.freezeRow Del.here ?_
              rintro I17 a17 c17 hI17 hq hc17 hl17 hcells17
              cases hq
              refine ops_nil ?_
              refine e_next rfl side_allA ?_
              refine e_eff rfl (by intro cs b hc; cases hc) (by intro c hc; cases hc) ?_
              refine o_buildSlice (xs := [(Go.Operand.tmp 22), (Go.Operand.tmp 25)]) Try.underlying26 bs49 rfl rfl rfl rfl rfl (fun b26 => ?_)
              refine OpsJ.freezeRow Del.here ?_
              rintro I26 a26 c26 hI26 hq hc26 hl26 hcells26
              cases hq
              refine ops_nil ?_
              refine e_next rfl side_allA ?_
              refine e_eff rfl (by intro cs b hc; cases hc) (by intro c hc; cases hc) ?_
              refine op_call pl16 rfl rfl ((Subsumes_does (c := c15) (d := d15) ⟨some ⟨b17, 0, none⟩, 1, _, rfl, Nat.le_refl _, by decide, hcells17.mono Imm.leA, ⟨_, _, rfl, ⟨xa, xc, ya, yc, rfl, hxl.mono Imm.leA, hxr.mono Imm.leA⟩, rfl⟩⟩ ⟨some ⟨b26, 0, none⟩, 2, _, rfl, Nat.le_refl _, by decide, hcells26.mono Imm.leA, ⟨_, _, rfl, ⟨za, zc, wa, wc, rfl, hzl.mono Imm.leA, hzr.mono Imm.leA⟩, _, _, rfl, ⟨a11, c11, a12, c12, rfl, hv11.mono Imm.leA, hv12.mono Imm.leA⟩, rfl⟩⟩ c15_sm d15_sm)) Parts.none ?_
              rintro v27 I27 _ hI27 ⟨⟨q27, rfl, hq27⟩, rfl⟩
              have hqt : q27 = true := hq27.2 ⟨cd15, cd15_sub⟩
              subst hqt
              rw [cd15]
              refine ops_nil ?_
              refine e_next rfl side_allA ?_
              refine e_fl rfl rfl (fun hs_ => PF.mk rfl (v_move rfl) hs_) ?_
              refine e_fl rfl rfl (fun hs_ => PF.mk rfl (v_extract rfl rfl) hs_) ?_
              refine e_fl rfl rfl (fun hs_ => PF.mk rfl (v_extract rfl rfl) hs_) ?_
              refine e_eff rfl (by intro cs b hc; cases hc) (by intro c hc; cases hc) ?_
              refine op_v (v_assign rfl) rfl ?_
              refine ops_nil ?_
              refine e_next rfl side_allA ?_
              refine e_eff rfl (by intro cs b hc; cases hc) (by intro c hc; cases hc) ?_
              refine op_v (v_assign rfl) rfl ?_
              refine ops_nil ?_
              refine e_next rfl (side_nil (by kernel_rfl)) ?_
              refine e_done ?_
              exact post_meet _ ⟨rfl, Imm.leA, rfl⟩ ⟨rfl, rfl, rfl, rfl, rfl, rfl, trivial⟩
            · refine o_buildSlice (xs := [(Go.Operand.tmp 22), (Go.Operand.tmp 25)]) Try.underlying26 bs49 rfl rfl rfl rfl rfl (fun b26 => ?_)
              refine OpsJ.freezeRow Del.here ?_
              rintro I26 a26 c26 hI26 hq hc26 hl26 hcells26
              cases hq
              refine ops_nil ?_
              refine e_next rfl side_allA ?_
              refine e_eff rfl (by intro cs b hc; cases hc) (by intro c hc; cases hc) ?_
              refine o_buildSlice (xs := [(Go.Operand.tmp 16)]) Try.underlying26 bs49 rfl rfl rfl rfl rfl (fun b17 => ?_)
              refine OpsJ.freezeRow Del.here ?_
              rintro I17 a17 c17 hI17 hq hc17 hl17 hcells17
              cases hq
              refine ops_nil ?_
              refine e_next rfl side_allA ?_
              refine e_eff rfl (by intro cs b hc; cases hc) (by intro c hc; cases hc) ?_
              refine op_call pl16 rfl rfl ((Subsumes_does (c := c15) (d := d15) ⟨some ⟨b17, 0, none⟩, 1, _, rfl, Nat.le_refl _, by decide, hcells17.mono Imm.leA, ⟨_, _, rfl, ⟨xa, xc, ya, yc, rfl, hxl.mono Imm.leA, hxr.mono Imm.leA⟩, rfl⟩⟩ ⟨some ⟨b26, 0, none⟩, 2, _, rfl, Nat.le_refl _, by decide, hcells26.mono Imm.leA, ⟨_, _, rfl, ⟨za, zc, wa, wc, rfl, hzl.mono Imm.leA, hzr.mono Imm.leA⟩, _, _, rfl, ⟨a11, c11, a12, c12, rfl, hv11.mono Imm.leA, hv12.mono Imm.leA⟩, rfl⟩⟩ c15_sm d15_sm)) Parts.none ?_
              rintro v27 I27 _ hI27 ⟨⟨q27, rfl, hq27⟩, rfl⟩
              have hqt : q27 = true := hq27.2 ⟨cd15, cd15_sub⟩
              subst hqt
              rw [cd15]
              refine ops_nil ?_
              refine e_next rfl side_allA ?_
              refine e_fl rfl rfl (fun hs_ => PF.mk rfl (v_move rfl) hs_) ?_
              refine e_fl rfl rfl (fun hs_ => PF.mk rfl (v_extract rfl rfl) hs_) ?_
              refine e_fl rfl rfl (fun hs_ => PF.mk rfl (v_extract rfl rfl) hs_) ?_
              refine e_eff rfl (by intro cs b hc; cases hc) (by intro c hc; cases hc) ?_
              refine op_v (v_assign rfl) rfl ?_
              refine ops_nil ?_
              refine e_next rfl side_allA ?_
              refine e_eff rfl (by intro cs b hc; cases hc) (by intro c hc; cases hc) ?_
              refine op_v (v_assign rfl) rfl ?_
              refine ops_nil ?_
              refine e_next rfl (side_nil (by kernel_rfl)) ?_
              refine e_done ?_
              exact post_meet _ ⟨rfl, Imm.leA, rfl⟩ ⟨rfl, rfl, rfl, rfl, rfl, rfl, trivial⟩
    · refine o_buildSlice (xs := [(Go.Operand.tmp 19)]) Try.underlying45 bs47 rfl rfl rfl rfl rfl (fun b20 => ?_)
      refine OpsJ.freezeRow Del.here ?_
      rintro I20 a20 c20 hI20 hq hc20 hl20 hcells20
      cases hq
      refine ops_nil ?_
      refine e_next rfl side_allA ?_
      refine e_eff rfl (by intro cs b hc; cases hc) (by intro c hc; cases hc) ?_
      refine op_fcall rfl rfl rfl ((Does.toF (args := [_, _]) (by kernel_rfl) (aw1_does (hv10.mono Imm.leA)))) Parts.none ?_
      rintro v16 I16 _ hI16 ⟨hv16, rfl⟩
      obtain ⟨xa, xc, ya, yc, rfl, hxl, hxr⟩ := hv16
      refine ops_nil ?_
      refine e_next rfl side_allA ?_
      refine e_two rfl (by intro cs b hc; cases hc) (by intro c hc; cases hc) rfl (by intro cs b hc; cases hc) (by intro c hc; cases hc) ?_ ?_
      · refine o_buildSlice (xs := [(Go.Operand.tmp 16)]) Try.underlying26 bs49 rfl rfl rfl rfl rfl (fun b17 => ?_)
        refine OpsJ.freezeRow Del.here ?_
        rintro I17 a17 c17 hI17 hq hc17 hl17 hcells17
        cases hq
        refine ops_nil ?_
        refine e_next rfl side_allA ?_
        refine e_eff rfl (by intro cs b hc; cases hc) (by intro c hc; cases hc) ?_
        refine op_call pl62 rfl rfl ((Fun_does (by unfold InR; omega) (RowT.repS (ts := [a15]) rfl (hcells20.mono Imm.leA) (RowT.one (hv11.mono Imm.leA)) hc20 (by omega)))) Parts.none ?_
        rintro v21 I21 _ hI21 ⟨hv21, rfl⟩
        change RepT I21 v21 f15 at hv21
        obtain ⟨a21, c21, rfl, _⟩ := hv21.shape
        refine ops_nil ?_
        refine e_next rfl side_allA ?_
        refine e_eff rfl (by intro cs b hc; cases hc) (by intro c hc; cases hc) ?_
        refine op_fcall rfl rfl rfl ((Does.toF (args := [_, _]) (by kernel_rfl) (aw1_does (hv21.mono Imm.leA)))) Parts.none ?_
        rintro v22 I22 _ hI22 ⟨hv22, rfl⟩
        obtain ⟨za, zc, wa, wc, rfl, hzl, hzr⟩ := hv22
        refine ops_nil ?_
        refine e_next rfl side_allA ?_
        refine e_eff rfl (by intro cs b hc; cases hc) (by intro c hc; cases hc) ?_
        refine o_buildSlice (xs := [(Go.Operand.tmp 22), (Go.Operand.tmp 25)]) Try.underlying26 bs49 rfl rfl rfl rfl rfl (fun b26 => ?_)
        refine OpsJ.freezeRow Del.here ?_
        rintro I26 a26 c26 hI26 hq hc26 hl26 hcells26
        cases hq
        refine ops_nil ?_
        refine e_next rfl side_allA ?_
        refine e_eff rfl (by intro cs b hc; cases hc) (by intro c hc; cases hc) ?_
        refine op_call pl16 rfl rfl ((Subsumes_does (c := c15) (d := d15) ⟨some ⟨b17, 0, none⟩, 1, _, rfl, Nat.le_refl _, by decide, hcells17.mono Imm.leA, ⟨_, _, rfl, ⟨xa, xc, ya, yc, rfl, hxl.mono Imm.leA, hxr.mono Imm.leA⟩, rfl⟩⟩ ⟨some ⟨b26, 0, none⟩, 2, _, rfl, Nat.le_refl _, by decide, hcells26.mono Imm.leA, ⟨_, _, rfl, ⟨za, zc, wa, wc, rfl, hzl.mono Imm.leA, hzr.mono Imm.leA⟩, _, _, rfl, ⟨a11, c11, a12, c12, rfl, hv11.mono Imm.leA, hv12.mono Imm.leA⟩, rfl⟩⟩ c15_sm d15_sm)) Parts.none ?_
        rintro v27 I27 _ hI27 ⟨⟨q27, rfl, hq27⟩, rfl⟩
        have hqt : q27 = true := hq27.2 ⟨cd15, cd15_sub⟩
        subst hqt
        rw [cd15]
        refine ops_nil ?_
        refine e_next rfl side_allA ?_
        refine e_fl rfl rfl (fun hs_ => PF.mk rfl (v_move rfl) hs_) ?_
        refine e_fl rfl rfl (fun hs_ => PF.mk rfl (v_extract rfl rfl) hs_) ?_
        refine e_fl rfl rfl (fun hs_ => PF.mk rfl (v_extract rfl rfl) hs_) ?_
        refine e_eff rfl (by intro cs b hc; cases hc) (by intro c hc; cases hc) ?_
        refine op_v (v_assign rfl) rfl ?_
        refine ops_nil ?_
        refine e_next rfl side_allA ?_
        refine e_eff rfl (by intro cs b hc; cases hc) (by intro c hc; cases hc) ?_
        refine op_v (v_assign rfl) rfl ?_
        refine ops_nil ?_
        refine e_next rfl (side_nil (by kernel_rfl)) ?_
        refine e_done ?_
        exact post_meet _ ⟨rfl, Imm.leA, rfl⟩ ⟨rfl, rfl, rfl, rfl, rfl, rfl, trivial⟩
      · refine op_call pl62 rfl rfl ((Fun_does (by unfold InR; omega) (RowT.repS (ts := [a15]) rfl (hcells20.mono Imm.leA) (RowT.one (hv11.mono Imm.leA)) hc20 (by omega)))) Parts.none ?_
        rintro v21 I21 _ hI21 ⟨hv21, rfl⟩
        change RepT I21 v21 f15 at hv21
        obtain ⟨a21, c21, rfl, _⟩ := hv21.shape
        refine ops_nil ?_
        refine e_next rfl side_allA ?_
        refine e_two rfl (by intro cs b hc; cases hc) (by intro c hc; cases hc) rfl (by intro cs b hc; cases hc) (by intro c hc; cases hc) ?_ ?_
        · refine o_buildSlice (xs := [(Go.Operand.tmp 16)]) Try.underlying26 bs49 rfl rfl rfl rfl rfl (fun b17 => ?_)
          refine OpsJ.freezeRow Del.here ?_
          rintro I17 a17 c17 hI17 hq hc17 hl17 hcells17
          cases hq
          refine ops_nil ?_
          refine e_next rfl side_allA ?_
          refine e_eff rfl (by intro cs b hc; cases hc) (by intro c hc; cases hc) ?_
          refine op_fcall rfl rfl rfl ((Does.toF (args := [_, _]) (by kernel_rfl) (aw1_does (hv21.mono Imm.leA)))) Parts.none ?_
          rintro v22 I22 _ hI22 ⟨hv22, rfl⟩
          obtain ⟨za, zc, wa, wc, rfl, hzl, hzr⟩ := hv22
          refine ops_nil ?_
          refine e_next rfl side_allA ?_
          refine e_eff rfl (by intro cs b hc; cases hc) (by intro c hc; cases hc) ?_
          refine o_buildSlice (xs := [(Go.Operand.tmp 22), (Go.Operand.tmp 25)]) Try.underlying26 bs49 rfl rfl rfl rfl rfl (fun b26 => ?_)
          refine OpsJ.freezeRow Del.here ?_
          rintro I26 a26 c26 hI26 hq hc26 hl26 hcells26
          cases hq
          refine ops_nil ?_
          refine e_next rfl side_allA ?_
          refine e_eff rfl (by intro cs b hc; cases hc) (by intro c hc; cases hc) ?_
          refine op_call pl16 rfl rfl ((Subsumes_does (c := c15) (d := d15) ⟨some ⟨b17, 0, none⟩, 1, _, rfl, Nat.le_refl _, by decide, hcells17.mono Imm.leA, ⟨_, _, rfl, ⟨xa, xc, ya, yc, rfl, hxl.mono Imm.leA, hxr.mono Imm.leA⟩, rfl⟩⟩ ⟨some ⟨b26, 0, none⟩, 2, _, rfl, Nat.le_refl _, by decide, hcells26.mono Imm.leA, ⟨_, _, rfl, ⟨za, zc, wa, wc, rfl, hzl.mono Imm.leA, hzr.mono Imm.leA⟩, _, _, rfl, ⟨a11, c11, a12, c12, rfl, hv11.mono Imm.leA, hv12.mono Imm.leA⟩, rfl⟩⟩ c15_sm d15_sm)) Parts.none ?_
          rintro v27 I27 _ hI27 ⟨⟨q27, rfl, hq27⟩, rfl⟩
          have hqt : q27 = true := hq27.2 ⟨cd15, cd15_sub⟩
          subst hqt
          rw [cd15]
          refine ops_nil ?_
          refine e_next rfl side_allA ?_
          refine e_fl rfl rfl (fun hs_ => PF.mk rfl (v_move rfl) hs_) ?_
          refine e_fl rfl rfl (fun hs_ => PF.mk rfl (v_extract rfl rfl) hs_) ?_
          refine e_fl rfl rfl (fun hs_ => PF.mk rfl (v_extract rfl rfl) hs_) ?_
          refine e_eff rfl (by intro cs b hc; cases hc) (by intro c hc; cases hc) ?_
          refine op_v (v_assign rfl) rfl ?_
          refine ops_nil ?_
          refine e_next rfl side_allA ?_
          refine e_eff rfl (by intro cs b hc; cases hc) (by intro c hc; cases hc) ?_
          refine op_v (v_assign rfl) rfl ?_
          refine ops_nil ?_
          refine e_next rfl (side_nil (by kernel_rfl)) ?_
          refine e_done ?_
          exact post_meet _ ⟨rfl, Imm.leA, rfl⟩ ⟨rfl, rfl, rfl, rfl, rfl, rfl, trivial⟩
        · refine op_fcall rfl rfl rfl ((Does.toF (args := [_, _]) (by kernel_rfl) (aw1_does (hv21.mono Imm.leA)))) Parts.none ?_
          rintro v22 I22 _ hI22 ⟨hv22, rfl⟩
          obtain ⟨za, zc, wa, wc, rfl, hzl, hzr⟩ := hv22
          refine ops_nil ?_
          refine e_next rfl side_allA ?_
          refine e_two rfl (by intro cs b hc; cases hc) (by intro c hc; cases hc) rfl (by intro cs b hc; cases hc) (by intro c hc; cases hc) ?_ ?_
          · refine o_buildSlice (xs := [(Go.Operand.tmp 16)]) Try.underlying26 bs49 rfl rfl rfl rfl rfl (fun b17 => ?_)
            refine OpsJ.freezeRow Del.here ?_
            rintro I17 a17 c17 hI17 hq hc17 hl17 hcells17
            cases hq
            refine ops_nil ?_
            refine e_next rfl side_allA ?_
            refine e_eff rfl (by intro cs b hc; cases hc) (by intro c hc; cases hc) ?_
            refine o_buildSlice (xs := [(Go.Operand.tmp 22), (Go.Operand.tmp 25)]) Try.underlying26 bs49 rfl rfl rfl rfl rfl (fun b26 => ?_)
            refine OpsJ.freezeRow Del.here ?_
            rintro I26 a26 c26 hI26 hq hc26 hl26 hcells26
            cases hq
            refine ops_nil ?_
            refine e_next rfl side_allA ?_
            refine e_eff rfl (by intro cs b hc; cases hc) (by intro c hc; cases hc) ?_
            refine op_call pl16 rfl rfl ((Subsumes_does (c := c15) (d := d15) ⟨some ⟨b17, 0, none⟩, 1, _, rfl, Nat.le_refl _, by decide, hcells17.mono Imm.leA, ⟨_, _, rfl, ⟨xa, xc, ya, yc, rfl, hxl.mono Imm.leA, hxr.mono Imm.leA⟩, rfl⟩⟩ ⟨some ⟨b26, 0, none⟩, 2, _, rfl, Nat.le_refl _, by decide, hcells26.mono Imm.leA, ⟨_, _, rfl, ⟨za, zc, wa, wc, rfl, hzl.mono Imm.leA, hzr.mono Imm.leA⟩, _, _, rfl, ⟨a11, c11, a12, c12, rfl, hv11.mono Imm.leA, hv12.mono Imm.leA⟩, rfl⟩⟩ c15_sm d15_sm)) Parts.none ?_
            rintro v27 I27 _ hI27 ⟨⟨q27, rfl, hq27⟩, rfl⟩
            have hqt : q27 = true := hq27.2 ⟨cd15, cd15_sub⟩
            subst hqt
            rw [cd15]
            refine ops_nil ?_
            refine e_next rfl side_allA ?_
            refine e_fl rfl rfl (fun hs_ => PF.mk rfl (v_move rfl) hs_) ?_
            refine e_fl rfl rfl (fun hs_ => PF.mk rfl (v_extract rfl rfl) hs_) ?_
            refine e_fl rfl rfl (fun hs_ => PF.mk rfl (v_extract rfl rfl) hs_) ?_
            refine e_eff rfl (by intro cs b hc; cases hc) (by intro c hc; cases hc) ?_
            refine op_v (v_assign rfl) rfl ?_
            refine ops_nil ?_
            refine e_next rfl side_allA ?_
            refine e_eff rfl (by intro cs b hc; cases hc) (by intro c hc; cases hc) ?_
            refine op_v (v_assign rfl) rfl ?_
            refine ops_nil ?_
            refine e_next rfl (side_nil (by kernel_rfl)) ?_
            refine e_done ?_
            exact post_meet _ ⟨rfl, Imm.leA, rfl⟩ ⟨rfl, rfl, rfl, rfl, rfl, rfl, trivial⟩
          · refine o_buildSlice (xs := [(Go.Operand.tmp 22), (Go.Operand.tmp 25)]) Try.underlying26 bs49 rfl rfl rfl rfl rfl (fun b26 => ?_)
            refine OpsJ.freezeRow Del.here ?_
            rintro I26 a26 c26 hI26 hq hc26 hl26 hcells26
            cases hq
            refine ops_nil ?_
            refine e_next rfl side_allA ?_
            refine e_eff rfl (by intro cs b hc; cases hc) (by intro c hc; cases hc) ?_
            refine o_buildSlice (xs := [(Go.Operand.tmp 16)]) Try.underlying26 bs49 rfl rfl rfl rfl rfl (fun b17 => ?_)
            refine OpsJ.freezeRow Del.here ?_
            rintro I17 a17 c17 hI17 hq hc17 hl17 hcells17
            cases hq
            refine ops_nil ?_
            refine e_next rfl side_allA ?_
            refine e_eff rfl (by intro cs b hc; cases hc) (by intro c hc; cases hc) ?_
            refine op_call pl16 rfl rfl ((Subsumes_does (c := c15) (d := d15) ⟨some ⟨b17, 0, none⟩, 1, _, rfl, Nat.le_refl _, by decide, hcells17.mono Imm.leA, ⟨_, _, rfl, ⟨xa, xc, ya, yc, rfl, hxl.mono Imm.leA, hxr.mono Imm.leA⟩, rfl⟩⟩ ⟨some ⟨b26, 0, none⟩, 2, _, rfl, Nat.le_refl _, by decide, hcells26.mono Imm.leA, ⟨_, _, rfl, ⟨za, zc, wa, wc, rfl, hzl.mono Imm.leA, hzr.mono Imm.leA⟩, _, _, rfl, ⟨a11, c11, a12, c12, rfl, hv11.mono Imm.leA, hv12.mono Imm.leA⟩, rfl⟩⟩ c15_sm d15_sm)) Parts.none ?_
            rintro v27 I27 _ hI27 ⟨⟨q27, rfl, hq27⟩, rfl⟩
            have hqt : q27 = true := hq27.2 ⟨cd15, cd15_sub⟩
            subst hqt
            rw [cd15]
            refine ops_nil ?_
            refine e_next rfl side_allA ?_
            refine e_fl rfl rfl (fun hs_ => PF.mk rfl (v_move rfl) hs_) ?_
            refine e_fl rfl rfl (fun hs_ => PF.mk rfl (v_extract rfl rfl) hs_) ?_
            refine e_fl rfl rfl (fun hs_ => PF.mk rfl (v_extract rfl rfl) hs_) ?_
            refine e_eff rfl (by intro cs b hc; cases hc) (by intro c hc; cases hc) ?_
            refine op_v (v_assign rfl) rfl ?_
            refine ops_nil ?_
            refine e_next rfl side_allA ?_
            refine e_eff rfl (by intro cs b hc; cases hc) (by intro c hc; cases hc) ?_
            refine op_v (v_assign rfl) rfl ?_
            refine ops_nil ?_
            refine e_next rfl (side_nil (by kernel_rfl)) ?_
            refine e_done ?_
            exact post_meet _ ⟨rfl, Imm.leA, rfl⟩ ⟨rfl, rfl, rfl, rfl, rfl, rfl, trivial⟩
  · rintro _ J5 _ ⟨rfl, hJ5, rfl⟩
    refine code_seq_meet (fun σ' I' δ' => σ' = [(5, .bool true), (6, .int .i64 0), (7, .int .i64 0), (8, .bool true), (9, .int .i64 0)] ∧ I12.le I' ∧ δ' = [.box b3 47 [.int .i64 b15.head, .slice a12 b15.args.length c12], .box b2 47 [.int .i64 a15.head, .slice a11 a15.args.length c11], .box b1 47 [.int .i64 x15.head, .slice a10 x15.args.length c10]]) ?_ ?_
    · refine code_draw (.fl 0 (.fl 1 (.fl 3 (.fl 4 (.fl 5 (.fl 7 (.fl 8 (.fl 10 (.fl 11 (.fl 12 (.fl 13 (.fl 14 (.ef 2 (.two 6 9 (.ef 9 (.ef 15 (.ef 16 (.ef 17 (.fl 18 (.fl 19 (.fl 20 (.fl 21 (.ef 22 (.ef 23 (.ef 24 .done))))))))))) (.two 6 15 (.ef 15 (.ef 16 (.ef 17 (.fl 18 (.fl 19 (.fl 20 (.fl 21 (.ef 22 (.ef 23 (.ef 24 .done)))))))))) (.two 6 16 (.ef 16 (.ef 17 (.fl 18 (.fl 19 (.fl 20 (.fl 21 (.ef 22 (.ef 23 (.ef 24 .done))))))))) (.ef 6 (.ef 17 (.fl 18 (.fl 19 (.fl 20 (.fl 21 (.ef 22 (.ef 23 (.ef 24 .done))))))))))))))))))))))))) (fun _ => _) mixed (by kernel_rfl) (by kernel_rfl) (fun _ => (List.Sublist.refl _)) ?_
      refine e_fl rfl rfl (fun hs_ => PF.mk rfl (v_move rfl) hs_) ?_
      refine e_fl rfl rfl (fun hs_ => PF.mk rfl (v_loadA ty47 rfl rfl) hs_) ?_
      refine e_fl rfl rfl (fun hs_ => PF.mk rfl (v_loadA ty47 rfl rfl) hs_) ?_
      refine e_fl rfl rfl (fun hs_ => PF.mk rfl (v_loadA ty47 rfl rfl) hs_) ?_
      refine e_fl rfl rfl (fun hs_ => PF.mk rfl (v_build (cs := liC ⟨false, x15, a15⟩ a10 c10 a11 c11) bl49 rfl rfl) hs_) ?_
      refine e_fl rfl rfl (fun hs_ => PF.mk rfl (v_move rfl) hs_) ?_
      refine e_fl rfl rfl (fun hs_ => PF.mk rfl (v_loadA ty47 rfl rfl) hs_) ?_
      refine e_fl rfl rfl (fun hs_ => PF.mk rfl (v_loadA ty47 rfl rfl) hs_) ?_
      refine e_fl rfl rfl (fun hs_ => PF.mk rfl (v_loadA ty47 rfl rfl) hs_) ?_
      refine e_fl rfl rfl (fun hs_ => PF.mk rfl (v_build (cs := liC ⟨false, a15, b15⟩ a11 c11 a12 c12) bl49 rfl rfl) hs_) ?_
      refine e_fl rfl rfl (fun hs_ => PF.mk rfl (v_move rfl) hs_) ?_
      refine e_fl rfl rfl (fun hs_ => PF.mk rfl (v_loadA ty47 rfl rfl) hs_) ?_
      refine e_eff rfl (by intro cs b hc; cases hc) (by intro c hc; cases hc) ?_
      refine op_fcall rfl rfl rfl ((Does.toF (args := [_, _]) (by kernel_rfl) (aw1_does (hv10.mono Imm.leA)))) Parts.none ?_
      rintro v33 I33 _ hI33 ⟨hv33, rfl⟩
      obtain ⟨pa, pc, qa, qc, rfl, hpl, hpr⟩ := hv33
      refine ops_nil ?_
      refine e_next rfl side_allA ?_
      refine e_two rfl (by intro cs b hc; cases hc) (by intro c hc; cases hc) rfl (by intro cs b hc; cases hc) (by intro c hc; cases hc) ?_ ?_
      · refine o_buildSlice (xs := [(Go.Operand.tmp 33), (Go.Operand.tmp 36)]) Try.underlying26 bs49 rfl rfl rfl rfl rfl (fun b37 => ?_)
        refine OpsJ.freezeRow Del.here ?_
        rintro I37 a37 c37 hI37 hq hc37 hl37 hcells37
        cases hq
        refine ops_nil ?_
        refine e_next rfl side_allA ?_
        refine e_eff rfl (by intro cs b hc; cases hc) (by intro c hc; cases hc) ?_
        refine op_fcall rfl rfl rfl ((Does.toF (args := [_, _]) (by kernel_rfl) (aw1_does (hv12.mono Imm.leA)))) Parts.none ?_
        rintro v40 I40 _ hI40 ⟨hv40, rfl⟩
        obtain ⟨ra, rc, sa, sc, rfl, hrl, hrr⟩ := hv40
        refine ops_nil ?_
        refine e_next rfl side_allA ?_
        refine e_eff rfl (by intro cs b hc; cases hc) (by intro c hc; cases hc) ?_
        refine op_fcall rfl rfl rfl ((Does.toF (args := [_, _]) (by kernel_rfl) (aw1_does (hv11.mono Imm.leA)))) Parts.none ?_
        rintro v46 I46 _ hI46 ⟨hv46, rfl⟩
        obtain ⟨ta, tc, ua, uc, rfl, htl, htr⟩ := hv46
        refine ops_nil ?_
        refine e_next rfl side_allA ?_
        refine e_eff rfl (by intro cs b hc; cases hc) (by intro c hc; cases hc) ?_
        refine o_buildSlice (xs := [(Go.Operand.tmp 40), (Go.Operand.tmp 43), (Go.Operand.tmp 46)]) Try.underlying26 bs49 rfl rfl rfl rfl rfl (fun b47 => ?_)
        refine OpsJ.freezeRow Del.here ?_
        rintro I47 a47 c47 hI47 hq hc47 hl47 hcells47
        cases hq
        refine ops_nil ?_
        refine e_next rfl side_allA ?_
        refine e_eff rfl (by intro cs b hc; cases hc) (by intro c hc; cases hc) ?_
        refine op_call pl17 rfl rfl ((Cut_does (c := e15) (d := g15) ⟨some ⟨b37, 0, none⟩, 2, _, rfl, Nat.le_refl _, by decide, hcells37.mono Imm.leA, ⟨_, _, rfl, ⟨pa, pc, qa, qc, rfl, hpl.mono Imm.leA, hpr.mono Imm.leA⟩, _, _, rfl, ⟨a10, c10, a11, c11, rfl, hv10.mono Imm.leA, hv11.mono Imm.leA⟩, rfl⟩⟩ ⟨some ⟨b47, 0, none⟩, 3, _, rfl, Nat.le_refl _, by decide, hcells47.mono Imm.leA, ⟨_, _, rfl, ⟨ra, rc, sa, sc, rfl, hrl.mono Imm.leA, hrr.mono Imm.leA⟩, _, _, rfl, ⟨a11, c11, a12, c12, rfl, hv11.mono Imm.leA, hv12.mono Imm.leA⟩, _, _, rfl, ⟨ta, tc, ua, uc, rfl, htl.mono Imm.leA, htr.mono Imm.leA⟩, rfl⟩⟩ e15_sm g15_sm)) Parts.none ?_
        rintro v48 I48 _ hI48 ⟨hcut, rfl⟩
        have hv48 := hcut.eq eg15_cut
        subst hv48
        refine ops_nil ?_
        refine e_next rfl side_allA ?_
        refine e_fl rfl rfl (fun hs_ => PF.mk rfl (v_move rfl) hs_) ?_
        refine e_fl rfl rfl (fun hs_ => PF.mk rfl (v_extract rfl rfl) hs_) ?_
        refine e_fl rfl rfl (fun hs_ => PF.mk rfl (v_extract rfl rfl) hs_) ?_
        refine e_fl rfl rfl (fun hs_ => PF.mk rfl (v_extract rfl rfl) hs_) ?_
        refine e_eff rfl (by intro cs b hc; cases hc) (by intro c hc; cases hc) ?_
        refine op_v (v_assign rfl) rfl ?_
        refine ops_nil ?_
        refine e_next rfl side_allA ?_
        refine e_eff rfl (by intro cs b hc; cases hc) (by intro c hc; cases hc) ?_
        refine op_v (v_assign rfl) rfl ?_
        refine ops_nil ?_
        refine e_next rfl side_allA ?_
        refine e_eff rfl (by intro cs b hc; cases hc) (by intro c hc; cases hc) ?_
        refine op_v (v_assign rfl) rfl ?_
        refine ops_nil ?_
        refine e_next rfl (side_nil (by kernel_rfl)) ?_
        refine e_done ?_
        exact post_meet _ ⟨rfl, Imm.leA, rfl⟩ ⟨rfl, rfl, rfl, rfl, rfl, trivial⟩
      · refine op_fcall rfl rfl rfl ((Does.toF (args := [_, _]) (by kernel_rfl) (aw1_does (hv12.mono Imm.leA)))) Parts.none ?_
        rintro v40 I40 _ hI40 ⟨hv40, rfl⟩
        obtain ⟨ra, rc, sa, sc, rfl, hrl, hrr⟩ := hv40
        refine ops_nil ?_
        refine e_next rfl side_allA ?_
        refine e_two rfl (by intro cs b hc; cases hc) (by intro c hc; cases hc) rfl (by intro cs b hc; cases hc) (by intro c hc; cases hc) ?_ ?_
        · refine o_buildSlice (xs := [(Go.Operand.tmp 33), (Go.Operand.tmp 36)]) Try.underlying26 bs49 rfl rfl rfl rfl rfl (fun b37 => ?_)
          refine OpsJ.freezeRow Del.here ?_
          rintro I37 a37 c37 hI37 hq hc37 hl37 hcells37
          cases hq
          refine ops_nil ?_
          refine e_next rfl side_allA ?_
          refine e_eff rfl (by intro cs b hc; cases hc) (by intro c hc; cases hc) ?_
          refine op_fcall rfl rfl rfl ((Does.toF (args := [_, _]) (by kernel_rfl) (aw1_does (hv11.mono Imm.leA)))) Parts.none ?_
          rintro v46 I46 _ hI46 ⟨hv46, rfl⟩
          obtain ⟨ta, tc, ua, uc, rfl, htl, htr⟩ := hv46
          refine ops_nil ?_
          refine e_next rfl side_allA ?_
          refine e_eff rfl (by intro cs b hc; cases hc) (by intro c hc; cases hc) ?_
          refine o_buildSlice (xs := [(Go.Operand.tmp 40), (Go.Operand.tmp 43), (Go.Operand.tmp 46)]) Try.underlying26 bs49 rfl rfl rfl rfl rfl (fun b47 => ?_)
          refine OpsJ.freezeRow Del.here ?_
          rintro I47 a47 c47 hI47 hq hc47 hl47 hcells47
          cases hq
          refine ops_nil ?_
          refine e_next rfl side_allA ?_
          refine e_eff rfl (by intro cs b hc; cases hc) (by intro c hc; cases hc) ?_
          refine op_call pl17 rfl rfl ((Cut_does (c := e15) (d := g15) ⟨some ⟨b37, 0, none⟩, 2, _, rfl, Nat.le_refl _, by decide, hcells37.mono Imm.leA, ⟨_, _, rfl, ⟨pa, pc, qa, qc, rfl, hpl.mono Imm.leA, hpr.mono Imm.leA⟩, _, _, rfl, ⟨a10, c10, a11, c11, rfl, hv10.mono Imm.leA, hv11.mono Imm.leA⟩, rfl⟩⟩ ⟨some ⟨b47, 0, none⟩, 3, _, rfl, Nat.le_refl _, by decide, hcells47.mono Imm.leA, ⟨_, _, rfl, ⟨ra, rc, sa, sc, rfl, hrl.mono Imm.leA, hrr.mono Imm.leA⟩, _, _, rfl, ⟨a11, c11, a12, c12, rfl, hv11.mono Imm.leA, hv12.mono Imm.leA⟩, _, _, rfl, ⟨ta, tc, ua, uc, rfl, htl.mono Imm.leA, htr.mono Imm.leA⟩, rfl⟩⟩ e15_sm g15_sm)) Parts.none ?_
          rintro v48 I48 _ hI48 ⟨hcut, rfl⟩
          have hv48 := hcut.eq eg15_cut
          subst hv48
          refine ops_nil ?_
          refine e_next rfl side_allA ?_
          refine e_fl rfl rfl (fun hs_ => PF.mk rfl (v_move rfl) hs_) ?_
          refine e_fl rfl rfl (fun hs_ => PF.mk rfl (v_extract rfl rfl) hs_) ?_
          refine e_fl rfl rfl (fun hs_ => PF.mk rfl (v_extract rfl rfl) hs_) ?_
          refine e_fl rfl rfl (fun hs_ => PF.mk rfl (v_extract rfl rfl) hs_) ?_
          refine e_eff rfl (by intro cs b hc; cases hc) (by intro c hc; cases hc) ?_
          refine op_v (v_assign rfl) rfl ?_
          refine ops_nil ?_
          refine e_next rfl side_allA ?_
          refine e_eff rfl (by intro cs b hc; cases hc) (by intro c hc; cases hc) ?_
          refine op_v (v_assign rfl) rfl ?_
          refine ops_nil ?_
          refine e_next rfl side_allA ?_
          refine e_eff rfl (by intro cs b hc; cases hc) (by intro c hc; cases hc) ?_
          refine op_v (v_assign rfl) rfl ?_
          refine ops_nil ?_
          refine e_next rfl (side_nil (by kernel_rfl)) ?_
          refine e_done ?_
          exact post_meet _ ⟨rfl, Imm.leA, rfl⟩ ⟨rfl, rfl, rfl, rfl, rfl, trivial⟩
        · refine op_fcall rfl rfl rfl ((Does.toF (args := [_, _]) (by kernel_rfl) (aw1_does (hv11.mono Imm.leA)))) Parts.none ?_
          rintro v46 I46 _ hI46 ⟨hv46, rfl⟩
          obtain ⟨ta, tc, ua, uc, rfl, htl, htr⟩ := hv46
          refine ops_nil ?_
          refine e_next rfl side_allA ?_
          refine e_two rfl (by intro cs b hc; cases hc) (by intro c hc; cases hc) rfl (by intro cs b hc; cases hc) (by intro c hc; cases hc) ?_ ?_
          · refine o_buildSlice (xs := [(Go.Operand.tmp 33), (Go.Operand.tmp 36)]) Try.underlying26 bs49 rfl rfl rfl rfl rfl (fun b37 => ?_)
            refine OpsJ.freezeRow Del.here ?_
            rintro I37 a37 c37 hI37 hq hc37 hl37 hcells37
            cases hq
            refine ops_nil ?_
            refine e_next rfl side_allA ?_
            refine e_eff rfl (by intro cs b hc; cases hc) (by intro c hc; cases hc) ?_
            refine o_buildSlice (xs := [(Go.Operand.tmp 40), (Go.Operand.tmp 43), (Go.Operand.tmp 46)]) Try.underlying26 bs49 rfl rfl rfl rfl rfl (fun b47 => ?_)
            refine OpsJ.freezeRow Del.here ?_
            rintro I47 a47 c47 hI47 hq hc47 hl47 hcells47
            cases hq
            refine ops_nil ?_
            refine e_next rfl side_allA ?_
            refine e_eff rfl (by intro cs b hc; cases hc) (by intro c hc; cases hc) ?_
            refine op_call pl17 rfl rfl ((Cut_does (c := e15) (d := g15) ⟨some ⟨b37, 0, none⟩, 2, _, rfl, Nat.le_refl _, by decide, hcells37.mono Imm.leA, ⟨_, _, rfl, ⟨pa, pc, qa, qc, rfl, hpl.mono Imm.leA, hpr.mono Imm.leA⟩, _, _, rfl, ⟨a10, c10, a11, c11, rfl, hv10.mono Imm.leA, hv11.mono Imm.leA⟩, rfl⟩⟩ ⟨some ⟨b47, 0, none⟩, 3, _, rfl, Nat.le_refl _, by decide, hcells47.mono Imm.leA, ⟨_, _, rfl, ⟨ra, rc, sa, sc, rfl, hrl.mono Imm.leA, hrr.mono Imm.leA⟩, _, _, rfl, ⟨a11, c11, a12, c12, rfl, hv11.mono Imm.leA, hv12.mono Imm.leA⟩, _, _, rfl, ⟨ta, tc, ua, uc, rfl, htl.mono Imm.leA, htr.mono Imm.leA⟩, rfl⟩⟩ e15_sm g15_sm)) Parts.none ?_
            rintro v48 I48 _ hI48 ⟨hcut, rfl⟩
            have hv48 := hcut.eq eg15_cut
            subst hv48
            refine ops_nil ?_
            refine e_next rfl side_allA ?_
            refine e_fl rfl rfl (fun hs_ => PF.mk rfl (v_move rfl) hs_) ?_
            refine e_fl rfl rfl (fun hs_ => PF.mk rfl (v_extract rfl rfl) hs_) ?_
            refine e_fl rfl rfl (fun hs_ => PF.mk rfl (v_extract rfl rfl) hs_) ?_
            refine e_fl rfl rfl (fun hs_ => PF.mk rfl (v_extract rfl rfl) hs_) ?_
            refine e_eff rfl (by intro cs b hc; cases hc) (by intro c hc; cases hc) ?_
            refine op_v (v_assign rfl) rfl ?_
            refine ops_nil ?_
            refine e_next rfl side_allA ?_
            refine e_eff rfl (by intro cs b hc; cases hc) (by intro c hc; cases hc) ?_
            refine op_v (v_assign rfl) rfl ?_
            refine ops_nil ?_
            refine e_next rfl side_allA ?_
            refine e_eff rfl (by intro cs b hc; cases hc) (by intro c hc; cases hc) ?_
            refine op_v (v_assign rfl) rfl ?_
            refine ops_nil ?_
            refine e_next rfl (side_nil (by kernel_rfl)) ?_
            refine e_done ?_
            exact post_meet _ ⟨rfl, Imm.leA, rfl⟩ ⟨rfl, rfl, rfl, rfl, rfl, trivial⟩
          · refine o_buildSlice (xs := [(Go.Operand.tmp 40), (Go.Operand.tmp 43), (Go.Operand.tmp 46)]) Try.underlying26 bs49 rfl rfl rfl rfl rfl (fun b47 => ?_)
            refine OpsJ.freezeRow Del.here ?_
            rintro I47 a47 c47 hI47 hq hc47 hl47 hcells47
            cases hq
            refine ops_nil ?_
            refine e_next rfl side_allA ?_
            refine e_eff rfl (by intro cs b hc; cases hc) (by intro c hc; cases hc) ?_
            refine o_buildSlice (xs := [(Go.Operand.tmp 33), (Go.Operand.tmp 36)]) Try.underlying26 bs49 rfl rfl rfl rfl rfl (fun b37 => ?_)
            refine OpsJ.freezeRow Del.here ?_
            rintro I37 a37 c37 hI37 hq hc37 hl37 hcells37
            cases hq
            refine ops_nil ?_
            refine e_next rfl side_allA ?_
            refine e_eff rfl (by intro cs b hc; cases hc) (by intro c hc; cases hc) ?_
            refine op_call pl17 rfl rfl ((Cut_does (c := e15) (d := g15) ⟨some ⟨b37, 0, none⟩, 2, _, rfl, Nat.le_refl _, by decide, hcells37.mono Imm.leA, ⟨_, _, rfl, ⟨pa, pc, qa, qc, rfl, hpl.mono Imm.leA, hpr.mono Imm.leA⟩, _, _, rfl, ⟨a10, c10, a11, c11, rfl, hv10.mono Imm.leA, hv11.mono Imm.leA⟩, rfl⟩⟩ ⟨some ⟨b47, 0, none⟩, 3, _, rfl, Nat.le_refl _, by decide, hcells47.mono Imm.leA, ⟨_, _, rfl, ⟨ra, rc, sa, sc, rfl, hrl.mono Imm.leA, hrr.mono Imm.leA⟩, _, _, rfl, ⟨a11, c11, a12, c12, rfl, hv11.mono Imm.leA, hv12.mono Imm.leA⟩, _, _, rfl, ⟨ta, tc, ua, uc, rfl, htl.mono Imm.leA, htr.mono Imm.leA⟩, rfl⟩⟩ e15_sm g15_sm)) Parts.none ?_
            rintro v48 I48 _ hI48 ⟨hcut, rfl⟩
            have hv48 := hcut.eq eg15_cut
            subst hv48
            refine ops_nil ?_
            refine e_next rfl side_allA ?_
            refine e_fl rfl rfl (fun hs_ => PF.mk rfl (v_move rfl) hs_) ?_
            refine e_fl rfl rfl (fun hs_ => PF.mk rfl (v_extract rfl rfl) hs_) ?_
            refine e_fl rfl rfl (fun hs_ => PF.mk rfl (v_extract rfl rfl) hs_) ?_
            refine e_fl rfl rfl (fun hs_ => PF.mk rfl (v_extract rfl rfl) hs_) ?_
            refine e_eff rfl (by intro cs b hc; cases hc) (by intro c hc; cases hc) ?_
            refine op_v (v_assign rfl) rfl ?_
            refine ops_nil ?_
            refine e_next rfl side_allA ?_
            refine e_eff rfl (by intro cs b hc; cases hc) (by intro c hc; cases hc) ?_
            refine op_v (v_assign rfl) rfl ?_
            refine ops_nil ?_
            refine e_next rfl side_allA ?_
            refine e_eff rfl (by intro cs b hc; cases hc) (by intro c hc; cases hc) ?_
            refine op_v (v_assign rfl) rfl ?_
            refine ops_nil ?_
            refine e_next rfl (side_nil (by kernel_rfl)) ?_
            refine e_done ?_
            exact post_meet _ ⟨rfl, Imm.leA, rfl⟩ ⟨rfl, rfl, rfl, rfl, rfl, trivial⟩
    · rintro _ J6 _ ⟨rfl, hJ6, rfl⟩
      refine code_seq ?_
      refine code_region ?_
      refine op_v (v_move rfl) rfl ?_
      refine op_v (v_move rfl) rfl ?_
      refine op_want rfl rfl ?_
      refine op_v (v_move rfl) rfl ?_
      first
        | (refine op_want rfl rfl ?_
           refine op_v (v_cmptA rfl rfl rfl) rfl ?_)
        | (refine op_skip rfl rfl (by simp [undef]) rfl ?_)
      refine op_v (v_pickt rfl rfl) rfl ?_
      refine op_v (v_move rfl) rfl ?_
      refine op_want rfl rfl ?_
      refine op_v (v_move rfl) rfl ?_
      first
        | (refine op_want rfl rfl ?_
           refine op_v (v_cmptA rfl rfl rfl) rfl ?_)
        | (refine op_skip rfl rfl (by simp [undef]) rfl ?_)
      refine op_v (v_pickt rfl rfl) rfl ?_
      refine op_v (v_move rfl) rfl ?_
      refine op_want rfl rfl ?_
      refine op_v (v_move rfl) rfl ?_
      refine op_v (v_pickt rfl rfl) rfl ?_
      refine op_v (v_move rfl) rfl ?_
      refine op_want rfl rfl ?_
      refine op_v (v_move rfl) rfl ?_
      refine op_want rfl rfl ?_
      refine op_v (v_move rfl) rfl ?_
      first
        | (refine op_want rfl rfl ?_
           refine op_v (v_cmptA rfl rfl rfl) rfl ?_)
        | (refine op_skip rfl rfl (by simp [undef]) rfl ?_)
      refine op_v (v_pickt rfl rfl) rfl ?_
      refine op_v (v_assign rfl) rfl ?_
      refine ops_nil ?_
      refine post_next ?_
      refine code_ret ?_
      refine post_ret (rs := [.tmp 0]) rfl (List.Perm.refl _) (.cons (.tmp rfl) .nil) (List.nil_sublist _) ?_
      exact ⟨rfl, rfl⟩
end Go.Proofs.Ytdbadicpbmndbaa
/- What says more than what says more; what is left of a clause. Plain facts; no condition. -/
set_option linter.unusedVariables false
set_option linter.unusedSimpArgs false
set_option linter.unnecessarySimpa false
namespace Go.Proofs.Ytdbadicpbmndbaa
open Go Lg

/-- which literal goes where -/
def Asg (θ : Int → T) (d : List Li) : List Li → List Nat → Prop
  | [], [] => True
  | a :: r, k :: js => (∃ h : k < d.length, d[k].neg = a.neg ∧ litM θ a d[k]) ∧ Asg θ d r js
  | [], _ :: _ => False
  | _ :: _, [] => False
theorem SubS_iff {θ : Int → T} {d : List Li} : ∀ {c : List Li} {us : List Bool}, SubS θ d us c ↔ ∃ js, Asg θ d c js ∧ js.Nodup ∧ ∀ j ∈ js, us[j]? = some false
  | [], us => ⟨fun _ => ⟨[], trivial, List.nodup_nil, fun j h => by cases h⟩, fun _ => trivial⟩
  | a :: r, us => by
    constructor
    · rintro ⟨k, hk, h1, h2, h3, h4⟩
      obtain ⟨js, e1, e2, e3⟩ := SubS_iff.1 h4
      have hne : ∀ j ∈ js, j ≠ k ∧ us[j]? = some false := fun j hj => by
        have := e3 j hj
        by_cases q : k = j
        · subst q
          have hk2 := (List.getElem?_eq_some_iff.1 h1).1
          rw [List.getElem?_set_self hk2] at this; cases this
        · rw [List.getElem?_set_ne q] at this; exact ⟨fun e => q e.symm, this⟩
      refine ⟨k :: js, ⟨⟨hk, h2, h3⟩, e1⟩, List.nodup_cons.2 ⟨fun hm => (hne k hm).1 rfl, e2⟩, fun j hj => ?_⟩
      rcases List.mem_cons.1 hj with rfl | hj
      · exact h1
      · exact (hne j hj).2
    · rintro ⟨js, e1, e2, e3⟩
      cases js with
      | nil => exact e1.elim
      | cons k js =>
        obtain ⟨⟨hk, h2, h3⟩, h4⟩ := e1
        obtain ⟨hn, e2⟩ := List.nodup_cons.1 e2
        refine ⟨k, hk, e3 k (List.mem_cons_self ..), h2, h3, SubS_iff.2 ⟨js, h4, e2, fun j hj => ?_⟩⟩
        rw [List.getElem?_set_ne (fun e => hn (by rw [e]; exact hj))]
        exact e3 j (List.mem_cons_of_mem _ hj)
theorem freeU_get {n j : Nat} : (freeU n)[j]? = some false ↔ j < n := by
  unfold freeU
  rw [List.getElem?_replicate]
  constructor
  · intro h; split at h; assumption; cases h
  · intro h; rw [if_pos h]
theorem Asg_len {θ : Int → T} {d : List Li} : ∀ {c : List Li} {js : List Nat}, Asg θ d c js → js.length = c.length
  | [], [], _ => rfl
  | _ :: r, _ :: js, h => by simp [Asg_len h.2]
  | [], _ :: _, h => h.elim
  | _ :: _, [], h => h.elim
theorem Asg_get {θ : Int → T} {d : List Li} : ∀ {c : List Li} {js : List Nat}, Asg θ d c js → ∀ (i : Nat) (h1 : i < c.length) (h2 : i < js.length), ∃ h : js[i] < d.length, d[js[i]].neg = c[i].neg ∧ litM θ c[i] d[js[i]]
  | a :: r, k :: js, h, 0, _, _ => h.1
  | a :: r, k :: js, h, i + 1, h1, h2 => by
    have := Asg_get h.2 i (by simpa using h1) (by simpa using h2)
    simpa using this
  | [], _, _, i, h1, _ => by simp at h1
  | _ :: _, [], h, i, _, _ => h.elim
theorem Asg_mem {θ : Int → T} {d : List Li} : ∀ {c : List Li} {js : List Nat}, Asg θ d c js → ∀ j ∈ js, j < d.length
  | [], [], _, j, h => by cases h
  | a :: r, k :: js, h, j, hj => by
    rcases List.mem_cons.1 hj with rfl | hj
    · exact h.1.1
    · exact Asg_mem h.2 j hj
  | [], _ :: _, h, _, _ => h.elim
  | _ :: _, [], h, _, _ => h.elim
theorem Sub_iff {c d : List Li} : Sub c d ↔ ∃ θ js, Asg θ d c js ∧ js.Nodup := by
  unfold Sub
  constructor
  · rintro ⟨θ, h⟩
    obtain ⟨js, e1, e2, _⟩ := SubS_iff.1 h
    exact ⟨θ, js, e1, e2⟩
  · rintro ⟨θ, js, e1, e2⟩
    exact ⟨θ, SubS_iff.2 ⟨js, e1, e2, fun j hj => freeU_get.2 (Asg_mem e1 j hj)⟩⟩
/-! ### one behind the other -/
mutual
theorem pT_comp (θ1 θ2 : Int → T) : ∀ t : T, pT (fun v => pT θ2 (θ1 v)) t = pT θ2 (pT θ1 t)
  | .mk h us => by
    rw [pT_mk, pT_mk]
    by_cases q : h < 0
    · rw [if_pos q, if_pos q]
    · rw [if_neg q, if_neg q, pT_mk, if_neg q, pL_comp θ1 θ2 us]
theorem pL_comp (θ1 θ2 : Int → T) : ∀ ts : List T, pL (fun v => pT θ2 (θ1 v)) ts = pL θ2 (pL θ1 ts)
  | [] => rfl
  | t :: r => by
    have h1 := pT_comp θ1 θ2 t
    have h2 := pL_comp θ1 θ2 r
    rw [pL_map] at h2 ⊢
    rw [pL_map, pL_map, List.map_cons, List.map_cons, List.map_cons, h1]
    rw [pL_map, pL_map] at h2
    rw [h2]
end
theorem litM_trans {θ1 θ2 : Int → T} {a b c : Li} (h : litM θ1 a b) (k : litM θ2 b c) : litM (fun v => pT θ2 (θ1 v)) a c := by
  obtain ⟨h1, h2⟩ := h
  obtain ⟨k1, k2⟩ := k
  refine ⟨h1.trans k1, ?_⟩
  rw [pT_comp, pT_comp]
  rcases h2 with ⟨e1, e2⟩ | ⟨e1, e2⟩ <;> rcases k2 with ⟨f1, f2⟩ | ⟨f1, f2⟩ <;> rw [e1, e2]
  · exact .inl ⟨f1, f2⟩
  · exact .inr ⟨f1, f2⟩
  · exact .inr ⟨f2, f1⟩
  · exact .inl ⟨f2, f1⟩
theorem Asg_trans {θ1 θ2 : Int → T} {b c : List Li} {js2 : List Nat} (h2 : Asg θ2 c b js2) : ∀ {a : List Li} {js1 : List Nat}, Asg θ1 b a js1 → Asg (fun v => pT θ2 (θ1 v)) c a (js1.map fun j => js2.getD j 0)
  | [], [], _ => trivial
  | x :: r, k :: js, ⟨⟨hk, e1, e2⟩, h⟩ => by
    have hk2 : k < js2.length := by rw [Asg_len h2]; exact hk
    obtain ⟨h3, f1, f2⟩ := Asg_get h2 k hk hk2
    have hg : js2.getD k 0 = js2[k] := by rw [List.getD_eq_getElem?_getD, List.getElem?_eq_getElem hk2]; rfl
    refine ⟨?_, Asg_trans h2 h⟩
    show ∃ h : js2.getD k 0 < c.length, c[js2.getD k 0].neg = x.neg ∧ litM (fun v => pT θ2 (θ1 v)) x c[js2.getD k 0]
    rw [hg]
    exact ⟨h3, f1.trans e1, litM_trans e2 f2⟩
  | [], _ :: _, h => h.elim
  | _ :: _, [], h => h.elim
theorem nodup_getD {js : List Nat} (h : js.Nodup) {i j : Nat} (hi : i < js.length) (hj : j < js.length) (hne : i ≠ j) : js.getD i 0 ≠ js.getD j 0 := by
  rw [List.getD_eq_getElem?_getD, List.getD_eq_getElem?_getD, List.getElem?_eq_getElem hi, List.getElem?_eq_getElem hj]
  show js[i] ≠ js[j]
  have hp := List.pairwise_iff_getElem.1 h
  rcases Nat.lt_or_gt_of_ne hne with q | q
  · exact hp i j hi hj q
  · exact fun e => hp j i hj hi q e.symm
theorem Sub_trans {a b c : List Li} (h : Sub a b) (k : Sub b c) : Sub a c := by
  obtain ⟨θ1, js1, e1, n1⟩ := Sub_iff.1 h
  obtain ⟨θ2, js2, e2, n2⟩ := Sub_iff.1 k
  refine Sub_iff.2 ⟨_, _, Asg_trans e2 e1, ?_⟩
  unfold List.Nodup
  rw [List.pairwise_map]
  refine List.Pairwise.imp_of_mem (fun {i j} hi hj hne => ?_) n1
  have := Asg_len e2
  exact nodup_getD n2 (by have := Asg_mem e1 i hi; omega) (by have := Asg_mem e1 j hj; omega) hne
/-! ### what is left -/
def idθ (v : Int) : T := .mk (-1 - v) []
mutual
theorem pT_id : ∀ t : T, chkT t = 0 → pT idθ t = t
  | .mk h us, hc => by
    obtain ⟨h1, h2⟩ := chkT_args hc
    rw [pT_mk]
    by_cases q : h < 0
    · rw [if_pos q, h1 q]; unfold idθ; congr 1; omega
    · rw [if_neg q, pL_id us h2]
theorem pL_id : ∀ ts : List T, (∀ k (hk : k < ts.length), chkT ts[k] = 0) → pL idθ ts = ts
  | [], _ => rfl
  | t :: r, hc => by
    have h1 := pT_id t (hc 0 (by simp))
    have h2 := pL_id r fun k hk => by have := hc (k + 1) (by simpa using hk); simpa using this
    rw [pL_map] at h2 ⊢
    rw [List.map_cons, h1, h2]
end
def RiL (x : Li) : Prop := chkT x.l = 0 ∧ chkT x.r = 0
theorem RiL_of {c : List Li} (h : (sidesL c).any badT = false) : ∀ x ∈ c, RiL x := fun x hx => by
  have key : ∀ t ∈ sidesL c, chkT t = 0 := fun t ht => by
    have := List.any_eq_false.1 h t ht
    unfold badT at this; simpa using this
  exact ⟨key _ (List.mem_flatMap.2 ⟨x, hx, by simp⟩), key _ (List.mem_flatMap.2 ⟨x, hx, by simp⟩)⟩
theorem litM_id {x : Li} (h : RiL x) : litM idθ x x := ⟨rfl, .inl ⟨pT_id _ h.1, pT_id _ h.2⟩⟩
theorem Asg_some {b : List Li} (h : ∀ x ∈ b, RiL x) : ∀ js : List Nat, (∀ j ∈ js, j < b.length) → Asg idθ b (js.map fun j => b.getD j zeroLi) js
  | [], _ => trivial
  | k :: js, hj => by
    have hk := hj k (List.mem_cons_self ..)
    have hg : b.getD k zeroLi = b[k] := by rw [List.getD_eq_getElem?_getD, List.getElem?_eq_getElem hk]; rfl
    refine ⟨?_, Asg_some h js fun j q => hj j (List.mem_cons_of_mem _ q)⟩
    show ∃ h : k < b.length, b[k].neg = (b.getD k zeroLi).neg ∧ litM idθ (b.getD k zeroLi) b[k]
    rw [hg]
    exact ⟨hk, rfl, litM_id (h _ (List.getElem_mem hk))⟩
theorem range_getLi (b : List Li) : (List.range b.length).map (fun j => b.getD j zeroLi) = b := by
  apply List.ext_getElem
  · simp
  · intro i h1 h2; simp at h1; simp [h1]
theorem Sub_rest {b : List Li} (h : ∀ x ∈ b, RiL x) (k : Nat) : Sub (b.eraseIdx k) b := by
  refine Sub_iff.2 ⟨idθ, (List.range b.length).eraseIdx k, ?_, List.Nodup.sublist (List.eraseIdx_sublist _ _) List.nodup_range⟩
  have e : b.eraseIdx k = ((List.range b.length).eraseIdx k).map fun j => b.getD j zeroLi := by
    rw [← eraseIdx_mapX, range_getLi]
  have h2 := Asg_some h ((List.range b.length).eraseIdx k) fun j hj => by
    have := List.mem_of_mem_eraseIdx hj
    simpa using this
  rw [e]; exact h2
theorem sides_erase {b : List Li} {k : Nat} (h : (sidesL b).any badT = false) : (sidesL (b.eraseIdx k)).any badT = false := by
  rw [← any_badL] at h ⊢
  rw [List.any_eq_false] at h ⊢
  exact fun x hx => h x (List.mem_of_mem_eraseIdx hx)
theorem CutR.cases {c d : List Li} {v : Value} (h : CutR c d v) : ∃ (k : Int) (q : Bool), v = .tuple #[.int .i64 k, .bool q, .int .i64 (wrE c d)] ∧ (q = true → wrE c d = 0 ∧ ∃ (n i : Nat), k = (n : Int) ∧ CutP c d i n) := by
  rcases h with ⟨_, rfl⟩ | ⟨h0, _, rfl⟩ | ⟨h0, k, i, h1, _, rfl⟩
  · exact ⟨_, _, rfl, fun h => by cases h⟩
  · rw [h0]; exact ⟨_, _, rfl, fun h => by cases h⟩
  · rw [h0]; exact ⟨_, _, rfl, fun _ => ⟨rfl, k, i, rfl, h1⟩⟩
end Go.Proofs.Ytdbadicpbmndbaa
/- What a row's reading of its arguments says of the heap; plain facts, no condition. -/
set_option linter.unusedVariables false
set_option linter.unusedSimpArgs false
namespace Go.Proofs.Ytdbadicpbmndbaa
open Go Lg Go.ChangeShapes Go.WideShapes Go.ChangeAt Go.RowKit

/-- the whole heap, as what is only read -/
def hImm (w : World) : Imm := fun b => w.heap[b]?
theorem hSat (w : World) : Sat w (hImm w) [] := ⟨fun _ _ h => h, fun x hx => by simp at hx, by simp [blks], fun b hb => by simp [blks] at hb⟩
theorem wf_in {n : Int} (h : (Lit.int .i64 n).wf = true) : InR n := by
  simp only [Lit.wf, Bool.and_eq_true, decide_eq_true_eq] at h
  have h1 : IntKind.i64.min = -9223372036854775808 := by decide
  have h2 : IntKind.i64.max = 9223372036854775807 := by decide
  unfold InR; omega

variable {H : Type} {enc : TypeId × Value → H} {P : Program} {W : World} {spare : Nat → Bool} {held : Bool}

theorem weights_at {ts : List TypeId} {ds : List (DataW H)} (h : (DataW.weightsEach P ts ds).all (· ≤ reachBytes) = true) : ∀ (j : Nat) (t : TypeId) (d : DataW H), ts[j]? = some t → ds[j]? = some d → (d.weights P t).all (· ≤ reachBytes) = true := by
  induction ts generalizing ds with
  | nil => intro j t d ht; simp at ht
  | cons t0 ts ih =>
    cases ds with
    | nil => intro j t d _ hd; simp at hd
    | cons d0 ds =>
      simp only [DataW.weightsEach, List.all_append, Bool.and_eq_true] at h
      intro j t d ht hd
      cases j with
      | zero => simp at ht hd; subst ht; subst hd; exact h.1
      | succ j => exact ih h.2 j t d (by simpa using ht) (by simpa using hd)
theorem weights_all {e : TypeId} {ds : List (DataW H)} (h : (DataW.weightsAll P e ds).all (· ≤ reachBytes) = true) : ∀ d ∈ ds, (d.weights P e).all (· ≤ reachBytes) = true := by
  induction ds with
  | nil => intro d hd; cases hd
  | cons d0 ds ih =>
    simp only [DataW.weightsAll, List.all_append, Bool.and_eq_true] at h
    intro d hd
    rcases List.mem_cons.1 hd with rfl | hd
    · exact h.1
    · exact ih h.2 d hd

theorem openI {t e : TypeId} {a : Option Addr} {len cap : Nat} {d : DataW H} {ps : List MemPlace} (ht : P.underlying t = some (.slice e)) (he : P.underlying e = some (.int .i64)) (hc : P.cellsOf e = 1) (hB : P.bytesOf e = 8)
    (h : DataW.Trod enc P W 0 spare held t (.slice a len cap) d ps) (hw : (d.weights P t).all (· ≤ reachBytes) = true) : ∃ xs, RInts (hImm W) (.slice a len cap) xs := by
  obtain ⟨fuel, hf⟩ := h
  rcases open_ints ht he hc hf with ⟨hcs, _⟩ | ⟨x, l, c, zs, hcs, _, hl, hm, hz, hx, hcell, hwz⟩
  · simp [Value.cells] at hcs
    obtain ⟨rfl, rfl, rfl⟩ := hcs
    exact ⟨[], RInts.nil _⟩
  · simp [Value.cells] at hcs
    obtain ⟨rfl, rfl, rfl⟩ := hcs
    obtain ⟨hx, _⟩ := Prod.mk.inj hx
    subst hx
    have hzl : len ≤ zs.length := by rw [hz]; split <;> omega
    have hlen : (zs.take len).length = len := by rw [List.length_take]; omega
    simp only [DataW.weights, ht, hB, List.all_cons, Bool.and_eq_true, decide_eq_true_eq] at hw
    have hb : len * 8 ≤ reachBytes := by
      refine Nat.le_trans ?_ hw.1
      simp [lits]; omega
    have hrb : reachBytes = 140737488351232 := rfl
    refine ⟨zs.take len, RInts.of hlen.symm hl (by omega) (fun j v hj => ?_) (fun y hy => wf_in (hwz y (List.mem_of_mem_take hy)))⟩
    have hjl : j < len := by have := (List.getElem?_eq_some_iff.1 hj).1; simp at this; omega
    have hc := hcell j (by omega)
    rw [List.map_take, List.getElem?_take_of_lt hjl] at hj
    have e : v = .int .i64 (zs.getD j 0) := by
      have hjz : j < zs.length := by omega
      simp [hjz] at hj
      simp [hjz, hj]
    subst e
    exact hc

theorem pick_list {α : Type} {n : Nat} {p : Nat → α → Prop} (h : ∀ i, i < n → ∃ a, p i a) : ∃ l : List α, l.length = n ∧ ∀ i (hi : i < l.length), p i l[i] := by
  induction n with
  | zero => exact ⟨[], rfl, fun i hi => by simp at hi⟩
  | succ n ih =>
    obtain ⟨l, h1, h2⟩ := ih fun i hi => h i (by omega)
    obtain ⟨a, ha⟩ := h n (by omega)
    refine ⟨l ++ [a], by simp [h1], fun i hi => ?_⟩
    by_cases hlt : i < l.length
    · rw [List.getElem_append_left hlt]; exact h2 i hlt
    · have e : i = l.length := by simp at hi; omega
      subst e
      simp [h1, ha]

theorem cells_two {a : Addr} {cs : List Value} (h : W.cells? 0 a 2 = some cs) : ∃ u v, cs = [u, v] ∧ W.cell? a = some u ∧ W.cell? (a.add 1) = some v := by
  simp only [World.cells?, Nat.zero_le, if_true] at h
  have hr : List.range 2 = [0, 1] := rfl
  rw [hr] at h
  simp only [List.mapM_cons, List.mapM_nil, Option.bind_eq_bind, Option.bind_eq_some_iff, Option.pure_def, Option.some.injEq] at h
  obtain ⟨u, hu, r, ⟨v, hv, r2, rfl, rfl⟩, rfl⟩ := h
  have ha : a.add 0 = a := by simp [Addr.add]
  rw [ha] at hu
  exact ⟨u, v, rfl, hu, hv⟩

/-- a struct of a number and a row of its own kind -/
structure TreeTy (P : Program) (tT tS tI : TypeId) : Prop where
  str : ∃ fs : Array Field, P.underlying tT = some (.struct fs) ∧ fs.size = 2 ∧ (∃ f0 f1 : Field, fs[0]? = some f0 ∧ fs[1]? = some f1 ∧ f0.type = tI ∧ f0.offset = 0 ∧ f1.type = tS ∧ f1.offset = 1 ∧ fs.toList.map (·.type) = [tI, tS])
  sl : P.underlying tS = some (.slice tT)
  int : P.underlying tI = some (.int .i64)
  cT : P.cellsOf tT = 2
  cS : P.cellsOf tS = 1
  cI : P.cellsOf tI = 1
  bT : P.bytesOf tT = 32

theorem openT {tT tS tI : TypeId} (ty : TreeTy P tT tS tI) : ∀ (fuel : Nat) (cs : List Value) (d : DataW H) (ps : List MemPlace), DataW.trod enc P W 0 spare held fuel tT cs = some (d, ps) → (d.weights P tT).all (· ≤ reachBytes) = true →
    ∃ (s : Value) (t : T), cs = [.int .i64 t.head, s] ∧ RepT (hImm W) (.agg #[.int .i64 t.head, s]) t := by
  intro fuel
  induction fuel using Nat.strongRecOn with
  | _ fuel ih =>
    intro cs d ps h hw
    obtain ⟨fs, hfs, hsz, f0, f1, hf0, hf1, ht0, ho0, ht1, ho1, hts⟩ := ty.str
    obtain ⟨xs, n, rfl, hx, hcl, hxl, hxs⟩ := DataW.trod_struct hfs h
    rw [ty.cT] at hcl
    obtain ⟨u, v, rfl⟩ : ∃ u v, cs = [u, v] := by
      rcases cs with _ | ⟨u, _ | ⟨v, _ | ⟨_, _⟩⟩⟩
      · simp at hcl
      · simp at hcl
      · exact ⟨u, v, rfl⟩
      · simp at hcl
    have h0 := hxs 0 f0 hf0
    have h1 := hxs 1 f1 hf1
    rw [ht0, ho0, ty.cI] at h0
    rw [ht1, ho1, ty.cS] at h1
    simp only [List.drop_zero, List.drop_succ_cons, List.take_succ_cons, List.take_zero] at h0 h1
    rw [hsz] at hxl
    obtain ⟨x0, x1, rfl⟩ : ∃ x0 x1, xs = [x0, x1] := by
      rcases xs with _ | ⟨u, _ | ⟨v, _ | ⟨_, _⟩⟩⟩
      · simp at hxl
      · simp at hxl
      · exact ⟨u, v, rfl⟩
      · simp at hxl
    simp only [List.getElem?_cons_zero, List.getElem?_cons_succ] at h0 h1
    obtain ⟨m, hm, _, hwf⟩ := DataW.trod_int ty.int h0
    simp only [List.cons.injEq, and_true] at hm
    subst hm
    simp only [Prod.mk.injEq] at hx
    obtain ⟨rfl, _⟩ := hx
    simp only [DataW.weights, hfs, hts, List.map_cons, List.map_nil, DataW.weightsEach, List.all_append, Bool.and_eq_true] at hw
    have hw1 := hw.2.1
    rcases DataW.trod_slice ty.sl h1 with ⟨hcs, _⟩ | ⟨a, len, cap, elems, rest, n', rfl, hcs, rfl, _, hl, hm, hlen, hel, hsp, _⟩
    · simp only [List.cons.injEq, and_true] at hcs
      subst hcs
      exact ⟨_, .mk m [], rfl, RepT.mk _ (.mk m []) (wf_in hwf) (RepS.nil _)⟩
    · simp only [List.cons.injEq, and_true] at hcs
      subst hcs
      simp only [DataW.weights, ty.sl, ty.bT, List.all_cons, List.all_append, Bool.and_eq_true, decide_eq_true_eq] at hw1
      obtain ⟨hwl, hwe, _⟩ := hw1
      have hwe' := weights_all hwe
      have hrb : reachBytes = 140737488351232 := rfl
      simp only [List.length_map, hlen] at hwl
      have hall : ∀ i, i < len → ∃ t : T, ∃ s : Option Addr × Nat, At (hImm W) (some a) (i * 2) [.int .i64 t.head, .slice s.1 t.args.length s.2] ∧ RepT (hImm W) (.agg #[.int .i64 t.head, .slice s.1 t.args.length s.2]) t := by
        intro i hi
        have hy := hel i hi
        rw [ty.cT] at hy
        have hie : elems[i]? = some elems[i] := List.getElem?_eq_getElem (by omega)
        rw [hie, Option.bind_eq_some_iff] at hy
        obtain ⟨cs, hcs, htr⟩ := hy
        obtain ⟨u, v, rfl, hu, hv⟩ := cells_two hcs
        obtain ⟨s, t, he, hr⟩ := ih n' (by omega) _ elems[i].1 elems[i].2 htr (hwe' _ (List.mem_map.2 ⟨_, List.getElem_mem (by omega), rfl⟩))
        obtain ⟨sa, sc, hsh, _⟩ := hr.shape
        have hs : s = .slice sa t.args.length sc := by simpa using hsh
        subst hs
        simp only [List.cons.injEq, and_true] at he
        obtain ⟨rfl, rfl⟩ := he
        refine ⟨t, (sa, sc), fun j x hj => ?_, hr⟩
        rcases j with _ | _ | j
        · simp at hj; subst hj; exact hu
        · simp at hj; subst hj
          show W.cell? (a.add (i * 2 + 1)) = _
          rw [← add_add]; exact hv
        · simp at hj
      obtain ⟨ts, htl, hts2⟩ := pick_list hall
      have hss : ∃ ss : Nat → Option Addr × Nat, ∀ i (hi : i < ts.length), At (hImm W) (some a) (i * 2) [.int .i64 ts[i].head, .slice (ss i).1 ts[i].args.length (ss i).2] ∧ RepT (hImm W) (.agg #[.int .i64 ts[i].head, .slice (ss i).1 ts[i].args.length (ss i).2]) ts[i] := by
        classical
        exact ⟨fun i => if hi : i < ts.length then (hts2 i hi).choose else (none, 0), fun i hi => by simp only [dif_pos hi]; exact (hts2 i hi).choose_spec⟩
      obtain ⟨ss, hss⟩ := hss
      subst htl
      exact ⟨_, .mk m ts, rfl, RepT.intro ss (wf_in hwf) hl (by omega) (fun i hi => (hss i hi).1) (fun i hi => (hss i hi).2)⟩

theorem openTv {tT tS tI : TypeId} (ty : TreeTy P tT tS tI) {v : Value} {d : DataW H} {ps : List MemPlace} (h : DataW.Trod enc P W 0 spare held tT v d ps) (hw : (d.weights P tT).all (· ≤ reachBytes) = true) (hv : ∃ cs, v = .agg cs ∧ cs.size = P.cellsOf tT) : ∃ t, RepT (hImm W) v t := by
  obtain ⟨fuel, hf⟩ := h
  obtain ⟨s, t, hc, hr⟩ := openT ty fuel _ d ps hf hw
  obtain ⟨cs, rfl, _⟩ := hv
  have e : cs = #[.int .i64 t.head, s] := by
    apply Array.ext'
    simpa [Value.cells] using hc
  subst e
  exact ⟨t, hr⟩
theorem tr_below {w w' : World} {I I' : Imm} {δ' : List Ent} (h : Tr w I [] w' I' δ') : Below w.heap.size w w' := ⟨h.os, h.tape, h.output, h.size, fun k hk => h.same k hk (by simp [blks])⟩
end Go.Proofs.Ytdbadicpbmndbaa
/- What a row's reading of a literal says of the heap; plain facts, no condition. -/
set_option linter.unusedVariables false
set_option linter.unusedSimpArgs false
namespace Go.Proofs.Ytdbadicpbmndbaa
open Go Lg Go.ChangeShapes Go.WideShapes Go.ChangeAt Go.RowKit
variable {H : Type} {enc : TypeId × Value → H} {P : Program} {W : World} {spare : Nat → Bool} {held : Bool}
structure LiLay (P : Program) (tL tT tTs tI tb : TypeId) : Prop where
  tree : TreeTy P tT tTs tI
  str : ∃ f0 f1 f2 : Field, P.underlying tL = some (.struct #[f0, f1, f2]) ∧ (f0.type = tb ∧ f0.offset = 0) ∧ (f1.type = tT ∧ f1.offset = 1) ∧ f2.type = tT ∧ f2.offset = 3
  ub : P.underlying tb = some .bool
  cL : P.cellsOf tL = 5
  cb : P.cellsOf tb = 1
theorem openLi {tL tT tTs tI tb : TypeId} (ly : LiLay P tL tT tTs tI tb) {fuel : Nat} {cs : List Value} {x : DataW H × List MemPlace} (h : DataW.trod enc P W 0 spare held fuel tL cs = some x) (hw : (x.1.weights P tL).all (· ≤ reachBytes) = true) :
    ∃ (y : Li) (la ra : Option Addr) (lc rc : Nat), cs = [.bool y.neg, .int .i64 y.l.head, .slice la y.l.args.length lc, .int .i64 y.r.head, .slice ra y.r.args.length rc] ∧ RepT (hImm W) (.agg #[.int .i64 y.l.head, .slice la y.l.args.length lc]) y.l ∧ RepT (hImm W) (.agg #[.int .i64 y.r.head, .slice ra y.r.args.length rc]) y.r := by
  obtain ⟨f0, f1, f2, hs, ⟨e1, e2⟩, ⟨g1, g2⟩, k1, k2⟩ := ly.str
  obtain ⟨xs, n, rfl, hx, hcl, hxl, hxs⟩ := DataW.trod_struct hs h
  rw [ly.cL] at hcl
  obtain ⟨a, b, c, d, e, rfl⟩ : ∃ a b c d e, cs = [a, b, c, d, e] := by
    rcases cs with _ | ⟨a, _ | ⟨b, _ | ⟨c, _ | ⟨d, _ | ⟨e, _ | ⟨_, _⟩⟩⟩⟩⟩⟩ <;> simp at hcl
    exact ⟨a, b, c, d, e, rfl⟩
  have q0 := hxs 0 f0 rfl
  have q1 := hxs 1 f1 rfl
  have q2 := hxs 2 f2 rfl
  have hx3 : xs.length = 3 := hxl
  obtain ⟨x0, x1, x2, rfl⟩ : ∃ x0 x1 x2, xs = [x0, x1, x2] := by
    rcases xs with _ | ⟨u, _ | ⟨v, _ | ⟨w, _ | ⟨_, _⟩⟩⟩⟩ <;> simp at hx3
    exact ⟨u, v, w, rfl⟩
  rw [e1, e2, ly.cb] at q0
  rw [g1, g2, ly.tree.cT] at q1
  rw [k1, k2, ly.tree.cT] at q2
  simp only [List.drop_zero, List.drop_succ_cons, List.take_succ_cons, List.take_zero, List.getElem?_cons_zero, List.getElem?_cons_succ] at q0 q1 q2
  subst hx
  have hts : (#[f0, f1, f2] : Array Field).toList.map (·.type) = [tb, tT, tT] := by simp [e1, g1, k1]
  simp only [DataW.weights, hs, hts, List.map_cons, List.map_nil, DataW.weightsEach, List.all_append, Bool.and_eq_true] at hw
  obtain ⟨m, hm, _⟩ := DataW.trod_bool ly.ub q0
  obtain ⟨s, t, hc, hr⟩ := openT ly.tree n _ x1.1 x1.2 q1 hw.2.1
  obtain ⟨s', t', hc', hr'⟩ := openT ly.tree n _ x2.1 x2.2 q2 hw.2.2.1
  obtain ⟨sa, sc, hsh, _⟩ := hr.shape
  obtain ⟨sa', sc', hsh', _⟩ := hr'.shape
  have hse : s = .slice sa t.args.length sc := by simpa using hsh
  have hse' : s' = .slice sa' t'.args.length sc' := by simpa using hsh'
  subst hse; subst hse'
  simp only [List.cons.injEq, and_true] at hm hc hc'
  obtain ⟨rfl, rfl⟩ := hc
  obtain ⟨rfl, rfl⟩ := hc'
  subst hm
  exact ⟨⟨m, t, t'⟩, sa, sa', sc, sc', rfl, hr, hr'⟩
theorem openLv {tL tT tTs tI tb : TypeId} (ly : LiLay P tL tT tTs tI tb) {v : Value} {d : DataW H} {ps : List MemPlace} (h : DataW.Trod enc P W 0 spare held tL v d ps) (hw : (d.weights P tL).all (· ≤ reachBytes) = true) (hv : ∃ cs, v = .agg cs) : ∃ x, RepL (hImm W) v x := by
  obtain ⟨cs, rfl⟩ := hv
  obtain ⟨fuel, h1⟩ := h
  obtain ⟨y, la, ra, lc, rc, hc, hl, hr⟩ := openLi ly h1 hw
  refine ⟨y, la, lc, ra, rc, ?_, hl, hr⟩
  have : cs.toList = [.bool y.neg, .int .i64 y.l.head, .slice la y.l.args.length lc, .int .i64 y.r.head, .slice ra y.r.args.length rc] := by simpa [Value.cells] using hc
  cases cs; simp at this; subst this; rfl
end Go.Proofs.Ytdbadicpbmndbaa
/- What a row's reading of a clause, and of a script of stores, says of the heap; plain facts, no condition. -/
set_option linter.unusedVariables false
set_option linter.unusedSimpArgs false
namespace Go.Proofs.Ytdbadicpbmndbaa
open Go Lg Go.ChangeShapes Go.WideShapes Go.ChangeAt Go.RowKit
variable {H : Type} {enc : TypeId × Value → H} {P : Program} {W : World} {spare : Nat → Bool} {held : Bool}
theorem cells_allC {a : Addr} {n : Nat} {cs : List Value} (h : W.cells? 0 a n = some cs) : cs.length = n ∧ ∀ j v, cs[j]? = some v → W.cell? (a.add j) = some v := by
  simp only [World.cells?, Nat.zero_le, if_true] at h
  have key : ∀ (l : List Nat) (cs : List Value), l.mapM (fun i => W.cell? (a.add i)) = some cs → cs.length = l.length ∧ ∀ (j : Nat) (v : Value), cs[j]? = some v → ∃ i : Nat, l[j]? = some i ∧ W.cell? (a.add i) = some v := by
    intro l
    induction l with
    | nil => intro cs h; simp at h; subst h; exact ⟨rfl, fun j v h => by simp at h⟩
    | cons i l ih =>
      intro cs h
      simp only [List.mapM_cons, Option.bind_eq_bind, Option.bind_eq_some_iff, Option.pure_def, Option.some.injEq] at h
      obtain ⟨u, hu, r, hr, rfl⟩ := h
      obtain ⟨h1, h2⟩ := ih r hr
      refine ⟨by simp [h1], fun j v hj => ?_⟩
      cases j with
      | zero => simp at hj; subst hj; exact ⟨i, rfl, hu⟩
      | succ j => simpa using h2 j v (by simpa using hj)
  obtain ⟨h1, h2⟩ := key _ _ h
  refine ⟨by simpa using h1, fun j v hj => ?_⟩
  obtain ⟨i, hi, hc⟩ := h2 j v hj
  have hlt : j < n := by have := (List.getElem?_eq_some_iff.1 hi).1; simpa using this
  rw [List.getElem?_range hlt] at hi
  cases hi
  exact hc
theorem rowE_of {n : Nat} {α : Type} {E : Elt n α} {I : Imm} {ad : Option Addr} : ∀ (al : List α) (vss : List (List Value)), vss.length = al.length → (∀ i (h : i < al.length) (h' : i < vss.length), E.R I al[i] vss[i] ∧ At I ad (i * n) vss[i]) → RowE E I vss.flatten al ∧ ∀ m, (∀ i (h' : i < vss.length), At I ad (m * n + i * n) vss[i]) → ∀ j v, vss.flatten[j]? = some v → I.cellO (ad.map (·.add (m * n + j))) = some v
  | [], vss, hl, h => by
    have : vss = [] := List.eq_nil_of_length_eq_zero hl
    subst this
    exact ⟨rfl, fun m _ j v hj => by simp at hj⟩
  | a :: al, [], hl, h => by simp at hl
  | a :: al, vs :: vss, hl, h => by
    have hl' : vss.length = al.length := by simpa using hl
    have h0 := h 0 (by simp) (by simp)
    have hn : vs.length = n := E.len h0.1
    refine ⟨⟨vs, vss.flatten, rfl, h0.1, ?_⟩, ?_⟩
    · have key : ∀ (al : List α) (vss : List (List Value)), vss.length = al.length → (∀ i (h : i < al.length) (h' : i < vss.length), E.R I al[i] vss[i]) → RowE E I vss.flatten al := by
        intro al
        induction al with
        | nil => intro vss hl _; have : vss = [] := List.eq_nil_of_length_eq_zero hl; subst this; rfl
        | cons a al ih =>
          intro vss hl h
          rcases vss with _ | ⟨vs, vss⟩
          · simp at hl
          · exact ⟨vs, vss.flatten, rfl, h 0 (by simp) (by simp), ih vss (by simpa using hl) fun i h1 h2 => h (i + 1) (by simpa using h1) (by simpa using h2)⟩
      exact key al vss hl' fun i h1 h2 => (h (i + 1) (by simpa using h1) (by simpa using h2)).1
    · intro m hm j v hj
      have key : ∀ (vss : List (List Value)) (m : Nat), (∀ vs ∈ vss, vs.length = n) → (∀ i (h' : i < vss.length), At I ad (m * n + i * n) vss[i]) → ∀ j v, vss.flatten[j]? = some v → I.cellO (ad.map (·.add (m * n + j))) = some v := by
        intro vss
        induction vss with
        | nil => intro m _ _ j v hj; simp at hj
        | cons vs vss ih =>
          intro m hlen hm j v hj
          rw [List.flatten_cons] at hj
          have hvl := hlen vs (List.mem_cons_self ..)
          by_cases q : j < vs.length
          · rw [List.getElem?_append_left q] at hj
            have := hm 0 (by simp) j v hj
            simpa using this
          · rw [List.getElem?_append_right (by omega)] at hj
            have := ih (m + 1) (fun ws hw => hlen ws (List.mem_cons_of_mem _ hw)) (fun i h' => by
              have := hm (i + 1) (by simpa using h')
              rw [Nat.succ_mul] at this ⊢
              rw [show m * n + n + i * n = m * n + (i * n + n) by omega]
              simpa using this) (j - vs.length) v hj
            rw [Nat.succ_mul, show m * n + n + (j - vs.length) = m * n + j by omega] at this
            exact this
      have hlen : ∀ ws ∈ vs :: vss, ws.length = n := by
        intro ws hw
        obtain ⟨i, hi, rfl⟩ := List.getElem_of_mem hw
        exact E.len (h i (by rw [← hl]; exact hi) hi).1
      exact key (vs :: vss) m hlen hm j v hj
theorem repE_of {n : Nat} {α : Type} {E : Elt n α} {I : Imm} {ad : Option Addr} {c : Nat} (al : List α) (hc : al.length ≤ c) (hb : al.length ≤ 1954687338211) (h : ∀ i (h : i < al.length), ∃ vs, E.R I al[i] vs ∧ At I ad (i * n) vs) : RepE E I (.slice ad al.length c) al := by
  have hex : ∃ vss : List (List Value), vss.length = al.length ∧ ∀ i (h : i < al.length) (h' : i < vss.length), E.R I al[i] vss[i] ∧ At I ad (i * n) vss[i] := by
    classical
    refine ⟨(List.range al.length).map fun i => if h' : i < al.length then (h i h').choose else [], by simp, fun i h1 h2 => ?_⟩
    rw [List.getElem_map, List.getElem_range, dif_pos h1]
    exact (h i h1).choose_spec
  obtain ⟨vss, hl, hv⟩ := hex
  obtain ⟨h1, h2⟩ := rowE_of al vss hl hv
  refine ⟨ad, c, vss.flatten, rfl, hc, hb, fun j v hj => ?_, h1⟩
  have := h2 0 (fun i h' => by simpa using (hv i (by rw [← hl]; exact h') h').2) j v hj
  simpa using this
structure ClLay (P : Program) (tC tL tT tTs tI tb : TypeId) : Prop where
  lit : LiLay P tL tT tTs tI tb
  sl : P.underlying tC = some (.slice tL)
  bL : P.bytesOf tL = 72
theorem openCl {tC tL tT tTs tI tb : TypeId} (ly : ClLay P tC tL tT tTs tI tb) {fuel : Nat} {cs : List Value} {x : DataW H × List MemPlace} (h1 : DataW.trod enc P W 0 spare held fuel tC cs = some x) (hw : (x.1.weights P tC).all (· ≤ reachBytes) = true) : ∃ (a : Option Addr) (k : Nat) (c : List Li), cs = [.slice a c.length k] ∧ RepC (hImm W) (.slice a c.length k) c := by
  rcases DataW.trod_slice ly.sl h1 with ⟨hcs, _⟩ | ⟨a, len, cap, elems, rest, n', rfl, hcs, hd, _, hl, hm, hlen, hel, hsp, _⟩
  · exact ⟨none, 0, [], by simpa using hcs, RepE.nil⟩
  · obtain ⟨x1, x2⟩ := x
    obtain ⟨rfl, _⟩ := Prod.mk.inj hd
    simp only [DataW.weights, ly.sl, ly.bL, List.all_cons, List.all_append, Bool.and_eq_true, decide_eq_true_eq] at hw
    obtain ⟨hwl, hwe, _⟩ := hw
    have hwe' := weights_all hwe
    have hrb : reachBytes = 140737488351232 := rfl
    simp only [List.length_map, hlen] at hwl
    have hall : ∀ i, i < len → ∃ y : Li, ∃ vs, LitE.R (hImm W) y vs ∧ At (hImm W) (some a) (i * 5) vs := by
      intro i hi
      have hy := hel i hi
      rw [ly.lit.cL] at hy
      have hie : elems[i]? = some elems[i] := List.getElem?_eq_getElem (by omega)
      rw [hie, Option.bind_eq_some_iff] at hy
      obtain ⟨cs', hcs', htr⟩ := hy
      obtain ⟨_, hca⟩ := cells_allC hcs'
      obtain ⟨y, la, ra, lc, rc, rfl, h1, h2⟩ := openLi ly.lit htr (hwe' _ (List.mem_map.2 ⟨_, List.getElem_mem (by omega), rfl⟩))
      refine ⟨y, _, ⟨la, lc, ra, rc, rfl, h1, h2⟩, fun j v hj => ?_⟩
      have := hca j v hj
      rw [add_add] at this
      exact this
    obtain ⟨c, hcl, hc2⟩ := pick_list hall
    subst hcl
    exact ⟨some a, cap, c, by simpa using hcs, repE_of c hl (by omega) hc2⟩
theorem openCv {tC tL tT tTs tI tb : TypeId} (ly : ClLay P tC tL tT tTs tI tb) {v : Value} {d : DataW H} {ps : List MemPlace} (h : DataW.Trod enc P W 0 spare held tC v d ps) (hw : (d.weights P tC).all (· ≤ reachBytes) = true) (hv : ∃ a l c, v = .slice a l c) : ∃ c, RepC (hImm W) v c := by
  obtain ⟨a, l, c, rfl⟩ := hv
  obtain ⟨fuel, h1⟩ := h
  obtain ⟨a', k, cl, hcs, hr⟩ := openCl ly h1 hw
  simp [Value.cells] at hcs
  obtain ⟨rfl, rfl, rfl⟩ := hcs
  exact ⟨cl, hr⟩
end Go.Proofs.Ytdbadicpbmndbaa
