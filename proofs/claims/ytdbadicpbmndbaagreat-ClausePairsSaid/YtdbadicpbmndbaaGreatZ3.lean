/- Own texts, one behind the other: rules of a small program logic, walks through the program's functions, plain facts. No condition. -/
import Derived.Test.YtdbadicpbmndbaaGreatZ2
/- Walks: whether a term is one of a signature. -/
set_option linter.unusedVariables false
set_option linter.unusedSimpArgs false
/- short -/
namespace Go.Proofs.YtdbadicpbmndbaaGreat
open Go Lg

def arG (gs : List Sy) (h : Int) : Int := (gs[h.toNat]?.map Sy.ar).getD 0
def trG (gs : List Sy) (h : Int) : Bool := (gs[h.toNat]?.map Sy.tr).getD false
def unkB (gs : List Sy) (x : Bool × T) : Bool := decide (0 ≤ x.2.head) && (decide ((gs.length : Int) ≤ x.2.head) || decide ((x.2.args.length : Int) ≠ arG gs x.2.head))
def mixB (gs : List Sy) (x : Bool × T) : Bool := decide (0 ≤ x.2.head) && (!(unkB gs x) && (trG gs x.2.head && !x.1))
def SeeG (gs : List Sy) (b8 b7 b3 b2 : Nat) (cs gc : List Value) (l : List (Bool × T)) : List Ent :=
  [.box b8 4 [.bool (l.any (mixB gs))], .box b7 4 [.bool (l.any (unkB gs))], .box b3 48 cs, .box b2 22 gc]
theorem any_snoc {α : Type} (p : α → Bool) (l : List α) (x : α) : (l ++ [x]).any p = (l.any p || p x) := by simp
theorem arG_at {gs : List Sy} {h : Int} (h0 : 0 ≤ h) (hl : h < gs.length) : arG gs h = (gs[h.toNat]'(by omega)).ar := by
  have : h.toNat < gs.length := by omega
  simp [arG, this]
theorem trG_at {gs : List Sy} {h : Int} (h0 : 0 ≤ h) (hl : h < gs.length) : trG gs h = (gs[h.toNat]'(by omega)).tr := by
  have : h.toNat < gs.length := by omega
  simp [trG, this]

theorem Term1_does {I : Imm} {gs : List Sy} {b8 b7 b3 b2 c : Nat} {ad : Option Addr} {cs : List Value} {pre : List (Bool × T)} {v : Value} {x : Bool × T} (hv : RepT I v x.2) (hg : RepG I (.slice ad gs.length c) gs) :
    Does Tryz.prog 165 [v, .bool x.1, .pointer (some ⟨b2, 0, none⟩), .pointer (some ⟨b7, 0, none⟩), .pointer (some ⟨b8, 0, none⟩)] I (SeeG gs b8 b7 b3 b2 cs [.slice ad gs.length c] pre) (fun _ _ δ' => δ' = SeeG gs b8 b7 b3 b2 cs [.slice ad gs.length c] (pre ++ [x])) := by
  obtain ⟨top, t⟩ := x
  obtain ⟨a0, c0, rfl, hr0⟩ := hv.shape
  obtain ⟨_, hc, hb, hat, hok⟩ := hg.open
  have hu : ∀ b, unkB gs (top, t) = b → (pre ++ [(top, t)]).any (unkB gs) = (pre.any (unkB gs) || b) := fun b hb => by rw [any_snoc, hb]
  have hx : ∀ b, mixB gs (top, t) = b → (pre ++ [(top, t)]).any (mixB gs) = (pre.any (mixB gs) || b) := fun b hb => by rw [any_snoc, hb]
  simp only at hr0
  unfold SeeG
  refine Does.intro Tryz.func165 rfl Tryz.ntmps165 rfl fun w0 => ?_
  refine code_seq ?_
  refine code_region ?_
  refine o_box rfl rfl rfl (fun b5 => ?_)
  refine ops_nil ?_
  refine post_next ?_
  refine code_block ?_
  refine code_seq ?_
  refine code_region ?_
  refine op_v (v_fieldB 0 Tryz.underlying48 rfl rfl fz3 rfl) rfl ?_
  refine op_v (v_loadA ty3 rfl rfl) rfl ?_
  by_cases h10 : t.head < 0
  · refine op_v (v_cmptA rfl rfl rfl) rfl ?_
    refine op_v (v_assign rfl) rfl ?_
    refine ops_nil ?_
    refine post_next ?_
    refine code_cond_t rfl ?_
    refine code_skip ?_
    refine post_out ?_
    have hn : ¬ 0 ≤ t.head := by omega
    have e1 : unkB gs (top, t) = false := by simp [unkB, hn]
    have e2 : mixB gs (top, t) = false := by simp [mixB, hn]
    exact post_end (rs := []) rfl (List.Perm.refl _) .nil (List.sublist_cons_self _ _) (by rw [hu _ e1, hx _ e2]; simp)
  · refine op_v (v_cmpfA rfl rfl rfl) rfl ?_
    refine op_v (v_assign rfl) rfl ?_
    refine ops_nil ?_
    refine post_next ?_
    refine code_cond_f rfl ?_
    refine code_seq ?_
    refine code_draw (.fl 0 (.fl 1 (.fl 2 (.fl 3 (.fl 4 (.fl 5 (.fl 6 (.fl 7 (.fl 8 (.fl 9 (.fl 10 (.fl 11 (.fl 12 (.fl 13 (.fl 14 (.fl 15 (.fl 16 (.ef 17 .done)))))))))))))))))) (fun _ => _) mixed (by kernel_rfl) (by kernel_rfl) (fun _ => (List.Sublist.refl _)) ?_
    refine e_fl rfl rfl (fun hs_ => PF.mk rfl (v_fieldB 0 Tryz.underlying48 rfl rfl fz3 rfl) hs_) ?_
    refine e_fl rfl rfl (fun hs_ => PF.mk rfl (v_loadA ty3 rfl rfl) hs_) ?_
    refine e_fl rfl rfl (fun hs_ => PF.mk rfl (v_loadA ty22 rfl rfl) hs_) ?_
    refine e_fl rfl rfl (fun hs_ => PF.mk rfl (v_len Tryz.underlying22 rfl) hs_) ?_
    by_cases h16 : (gs.length : Int) ≤ t.head
    · refine e_fl rfl rfl (fun hs_ => PF.mk rfl (v_cmptA rfl rfl rfl) hs_) ?_
      refine e_fl rfl rfl (fun hs_ => PF.mk rfl (v_move rfl) hs_) ?_
      refine e_fl rfl rfl (fun hs_ => PF.mks rfl (by intro c hc; cases hc) rfl rfl (by simp [undef]) hs_) ?_
      refine e_fl rfl rfl (fun hs_ => PF.mks rfl (by intro c hc; cases hc) rfl rfl (by simp [undef]) hs_) ?_
      refine e_fl rfl rfl (fun hs_ => PF.mks rfl (by intro c hc; cases hc) rfl rfl (by simp [undef]) hs_) ?_
      refine e_fl rfl rfl (fun hs_ => PF.mks rfl (by intro c hc; cases hc) rfl rfl (by simp [undef]) hs_) ?_
      refine e_fl rfl rfl (fun hs_ => PF.mks rfl (by intro c hc; cases hc) rfl rfl (by simp [undef]) hs_) ?_
      refine e_fl rfl rfl (fun hs_ => PF.mks rfl (by intro c hc; cases hc) rfl rfl (by simp [undef]) hs_) ?_
      refine e_fl rfl rfl (fun hs_ => PF.mks rfl (by intro c hc; cases hc) rfl rfl (by simp [undef]) hs_) ?_
      refine e_fl rfl rfl (fun hs_ => PF.mks rfl (by intro c hc; cases hc) rfl rfl (by simp [undef]) hs_) ?_
      refine e_fl rfl rfl (fun hs_ => PF.mks rfl (by intro c hc; cases hc) rfl rfl (by simp [undef]) hs_) ?_
      refine e_fl rfl rfl (fun hs_ => PF.mks rfl (by intro c hc; cases hc) rfl rfl (by simp [undef]) hs_) ?_
      refine e_fl rfl rfl (fun hs_ => PF.mk rfl (v_pickt rfl rfl) hs_) ?_
      refine e_eff rfl (by intro cs b hc; cases hc) (by intro c hc; cases hc) ?_
      refine op_v (v_assign rfl) rfl ?_
      refine ops_nil ?_
      refine e_next rfl side_allA ?_
      refine e_done ?_
      refine post_next ?_
      refine code_cond_t rfl ?_
      refine code_region ?_
      refine o_store ty4 rfl rfl rfl rfl rfl (by repeat (first | exact Swap.here | apply Swap.there)) rfl ?_
      refine ops_nil ?_
      refine post_out ?_
      have e1 : unkB gs (top, t) = true := by simp [unkB, h16]; omega
      have e2 : mixB gs (top, t) = false := by simp [mixB, e1]
      exact post_end (rs := []) rfl (List.Perm.refl _) .nil (List.sublist_cons_self _ _) (by rw [hu _ e1, hx _ e2]; simp)
    · have h0 : 0 ≤ t.head := by omega
      have hlt : t.head.toNat < gs.length := by omega
      have hs1 := (hat _ hlt).isSome
      have hl0 : t.head < gs.length := by omega
      refine e_fl rfl rfl (fun hs_ => PF.mk rfl (v_cmpfA rfl rfl rfl) hs_) ?_
      refine e_fl rfl rfl (fun hs_ => PF.mk rfl (v_move rfl) hs_) ?_
      refine e_fl rfl rfl (fun hs_ => PF.mkg rfl rfl rfl (v_fieldB 1 Tryz.underlying48 rfl rfl fz46 rfl) hs_) ?_
      refine e_fl rfl rfl (fun hs_ => PF.mkg rfl rfl rfl (v_loadA ty46 rfl rfl) hs_) ?_
      refine e_fl rfl rfl (fun hs_ => PF.mkg rfl rfl rfl (v_len Tryz.underlying46 rfl) hs_) ?_
      refine e_fl rfl rfl (fun hs_ => PF.mkg rfl rfl rfl (v_loadA ty22 rfl rfl) hs_) ?_
      refine e_fl rfl rfl (fun hs_ => PF.mkg rfl rfl rfl (v_fieldB 0 Tryz.underlying48 rfl rfl fz3 rfl) hs_) ?_
      refine e_fl rfl rfl (fun hs_ => PF.mkg rfl rfl rfl (v_loadA ty3 rfl rfl) hs_) ?_
      refine e_fl rfl rfl (fun hs_ => PF.mkg rfl rfl rfl (v_indexIA Tryz.underlying22 sz85 rfl rfl) hs_) ?_
      refine e_fl rfl rfl (fun hs_ => PF.mkg rfl rfl rfl (v_fieldI 1 Tryz.underlying85 rfl rfl fz3 rfl (by assumption)) hs_) ?_
      refine e_fl rfl rfl (fun hs_ => PF.mkg rfl rfl rfl (v_loadI ty3 (hat _ hlt) rfl rfl rfl) hs_) ?_
      by_cases h27 : (t.args.length : Int) ≠ (gs[t.head.toNat]'hlt).ar
      · refine e_fl rfl rfl (fun hs_ => PF.mkg rfl rfl rfl (v_cmptA rfl rfl rfl) hs_) ?_
        refine e_fl rfl rfl (fun hs_ => PF.mk rfl (v_pickf rfl rfl) hs_) ?_
        refine e_eff rfl (by intro cs b hc; cases hc) (by intro c hc; cases hc) ?_
        refine op_v (v_assign rfl) rfl ?_
        refine ops_nil ?_
        refine e_next rfl side_allA ?_
        refine e_done ?_
        refine post_next ?_
        refine code_cond_t rfl ?_
        refine code_region ?_
        refine o_store ty4 rfl rfl rfl rfl rfl (by repeat (first | exact Swap.here | apply Swap.there)) rfl ?_
        refine ops_nil ?_
        refine post_out ?_
        have e1 : unkB gs (top, t) = true := by simp [unkB, arG_at h0 hl0, h0, h27]
        have e2 : mixB gs (top, t) = false := by simp [mixB, e1]
        exact post_end (rs := []) rfl (List.Perm.refl _) .nil (List.sublist_cons_self _ _) (by rw [hu _ e1, hx _ e2]; simp)
      · refine e_fl rfl rfl (fun hs_ => PF.mkg rfl rfl rfl (v_cmpfA rfl rfl rfl) hs_) ?_
        refine e_fl rfl rfl (fun hs_ => PF.mk rfl (v_pickf rfl rfl) hs_) ?_
        refine e_eff rfl (by intro cs b hc; cases hc) (by intro c hc; cases hc) ?_
        refine op_v (v_assign rfl) rfl ?_
        refine ops_nil ?_
        refine e_next rfl side_allA ?_
        refine e_done ?_
        refine post_next ?_
        refine code_cond_f rfl ?_
        refine code_seq ?_
        refine code_region ?_
        refine op_v (v_loadA ty22 rfl rfl) rfl ?_
        refine op_v (v_fieldB 0 Tryz.underlying48 rfl rfl fz3 rfl) rfl ?_
        refine op_v (v_loadA ty3 rfl rfl) rfl ?_
        refine op_v (v_indexIA Tryz.underlying22 sz85 rfl rfl) rfl ?_
        refine op_v (v_fieldI 3 Tryz.underlying85 rfl rfl fz4 rfl (by assumption)) rfl ?_
        refine op_v (v_loadI ty4 (hat _ hlt) rfl rfl rfl) rfl ?_
        skip
        by_cases h36 : (gs[t.head.toNat]'hlt).tr = true
        · rw [h36]
          refine op_v (v_move rfl) rfl ?_
          refine op_want rfl rfl ?_
          refine op_v (v_move rfl) rfl ?_
          by_cases h38 : top = true
          · subst h38
            refine op_want rfl rfl ?_
            refine op_v (v_not rfl) rfl ?_
            refine op_v (v_pickt rfl rfl) rfl ?_
            refine op_v (v_assign rfl) rfl ?_
            refine ops_nil ?_
            refine post_next ?_
            refine code_cond_f rfl ?_
            refine code_skip ?_
            refine post_out ?_
            have e1 : unkB gs (true, t) = false := by simp [unkB, arG_at h0 hl0]; omega
            have e2 : mixB gs (true, t) = false := by simp [mixB, e1]
            exact post_end (rs := []) rfl (List.Perm.refl _) .nil (List.sublist_cons_self _ _) (by rw [hu _ e1, hx _ e2]; simp)
          · have h38' : top = false := by simpa using h38
            subst h38'
            refine op_want rfl rfl ?_
            refine op_v (v_not rfl) rfl ?_
            refine op_v (v_pickt rfl rfl) rfl ?_
            refine op_v (v_assign rfl) rfl ?_
            refine ops_nil ?_
            refine post_next ?_
            refine code_cond_t rfl ?_
            refine code_region ?_
            refine o_store ty4 rfl rfl rfl rfl rfl (by repeat (first | exact Swap.here | apply Swap.there)) rfl ?_
            refine ops_nil ?_
            refine post_out ?_
            have e1 : unkB gs (false, t) = false := by simp [unkB, arG_at h0 hl0]; omega
            have e2 : mixB gs (false, t) = true := by simp [mixB, e1, trG_at h0 hl0, h36, h0]
            exact post_end (rs := []) rfl (List.Perm.refl _) .nil (List.sublist_cons_self _ _) (by rw [hu _ e1, hx _ e2]; simp)
        · have h36' : (gs[t.head.toNat]'hlt).tr = false := by simpa using h36
          rw [h36']
          refine op_v (v_move rfl) rfl ?_
          refine op_skip rfl rfl (by simp [undef]) rfl ?_
          refine op_skip rfl rfl (by simp [undef]) rfl ?_
          refine op_v (v_pickf rfl rfl) rfl ?_
          refine op_v (v_assign rfl) rfl ?_
          refine ops_nil ?_
          refine post_next ?_
          refine code_cond_f rfl ?_
          refine code_skip ?_
          refine post_out ?_
          have e1 : unkB gs (top, t) = false := by simp [unkB, arG_at h0 hl0]; omega
          have e2 : mixB gs (top, t) = false := by simp [mixB, e1, trG_at h0 hl0, h36']
          exact post_end (rs := []) rfl (List.Perm.refl _) .nil (List.sublist_cons_self _ _) (by rw [hu _ e1, hx _ e2]; simp)

def unkG (gs : List Sy) (t : T) : Bool := (visT true t).any (unkB gs)
def mixG (gs : List Sy) (t : T) : Bool := (visT true t).any (mixB gs)
def termG (gs : List Sy) (t : T) : Int := if chkG gs ≠ 0 then chkG gs else if chkT t ≠ 0 then chkT t else if unkG gs t = true then 1 else if mixG gs t = true then 10 else 0
theorem GTerm_does {I : Imm} {vg v : Value} {gs : List Sy} {t : T} (hg : RepG I vg gs) (hv : RepT I v t) (hbig : t.size ≤ 1000000000) :
    Does Tryz.prog 137 [vg, v] I [] (fun v _ δ' => v = .int .i64 (termG gs t) ∧ δ' = []) := by
  obtain ⟨ad, c, rfl⟩ := hg.shape
  obtain ⟨a0, c0, rfl, hr0⟩ := hv.shape
  refine Does.intro Tryz.func137 rfl Tryz.ntmps137 rfl fun w0 => ?_
  refine code_seq ?_
  refine code_region ?_
  refine o_box rfl rfl rfl (fun b2 => ?_)
  refine o_box rfl rfl rfl (fun b3 => ?_)
  refine op_v (v_assign rfl) rfl ?_
  refine ops_nil ?_
  refine post_next ?_
  refine code_seq ?_
  refine code_seq ?_
  refine code_region ?_
  refine op_v (v_loadA ty22 rfl rfl) rfl ?_
  refine op_call pl67 rfl rfl ((GCheck_does hg)) Parts.none ?_
  rintro v10 I10 _ hI10 ⟨rfl, rfl⟩
  refine op_v (v_assign rfl) rfl ?_
  refine ops_nil ?_
  refine post_next ?_
  refine code_seq ?_
  refine code_region ?_
  refine op_v (v_move rfl) rfl ?_
  by_cases h12 : chkG gs ≠ 0
  · refine op_v (v_cmptA rfl rfl rfl) rfl ?_
    refine ops_nil ?_
    refine post_next ?_
    refine code_cond_t rfl ?_
    refine code_seq ?_
    refine code_region ?_
    refine op_v (v_move rfl) rfl ?_
    refine op_v (v_assign rfl) rfl ?_
    refine ops_nil ?_
    refine post_next ?_
    refine code_ret ?_
    refine post_ret_then ?_
    refine post_ret (rs := [.tmp 4]) rfl (List.Perm.refl _) (.cons (.tmp rfl) .nil) (List.nil_sublist _) ?_
    exact ⟨by simp [outV, termG, h12], rfl⟩
  · refine op_v (v_cmpfA rfl rfl rfl) rfl ?_
    refine ops_nil ?_
    refine post_next ?_
    refine code_cond_f rfl ?_
    refine code_skip ?_
    refine post_next ?_
    refine code_seq ?_
    refine code_seq ?_
    refine code_region ?_
    refine op_v (v_loadA ty48 rfl rfl) rfl ?_
    refine op_call pl49 rfl rfl ((TCheck_does (hv.mono Imm.leA) hbig)) Parts.none ?_
    rintro v15 I15 _ hI15 ⟨rfl, rfl⟩
    refine op_v (v_assign rfl) rfl ?_
    refine ops_nil ?_
    refine post_next ?_
    refine code_seq ?_
    refine code_region ?_
    refine op_v (v_move rfl) rfl ?_
    by_cases h17 : chkT t ≠ 0
    · refine op_v (v_cmptA rfl rfl rfl) rfl ?_
      refine ops_nil ?_
      refine post_next ?_
      refine code_cond_t rfl ?_
      refine code_seq ?_
      refine code_region ?_
      refine op_v (v_move rfl) rfl ?_
      refine op_v (v_assign rfl) rfl ?_
      refine ops_nil ?_
      refine post_next ?_
      refine code_ret ?_
      refine post_ret_then ?_
      refine post_ret (rs := [.tmp 4]) rfl (List.Perm.refl _) (.cons (.tmp rfl) .nil) (List.nil_sublist _) ?_
      exact ⟨by simp only [outV, termG]; rw [if_neg h12, if_pos h17], rfl⟩
    · refine op_v (v_cmpfA rfl rfl rfl) rfl ?_
      refine ops_nil ?_
      refine post_next ?_
      refine code_cond_f rfl ?_
      refine code_skip ?_
      refine post_next ?_
      refine code_seq ?_
      refine code_region ?_
      refine o_alloc z4 rfl rfl (fun b7 => ?_)
      refine o_alloc z4 rfl rfl (fun b8 => ?_)
      refine o_store ty4 rfl rfl rfl rfl rfl (by repeat (first | exact Swap.here | apply Swap.there)) rfl ?_
      refine o_store ty4 rfl rfl rfl rfl rfl (by repeat (first | exact Swap.here | apply Swap.there)) rfl ?_
      refine ops_nil ?_
      refine post_next ?_
      refine code_seq ?_
      refine code_region ?_
      refine op_v (v_loadA ty48 rfl rfl) rfl ?_
      refine op_v (v_makeFunc rfl rfl) rfl ?_
      refine op_call pl164 rfl rfl ((gwalk_does (fun l I' δ' => RepG I' (.slice ad gs.length c) gs ∧ δ' = SeeG gs b8 b7 b3 b2 [.int .i64 t.head, .slice a0 t.args.length c0] [.slice ad gs.length c] l) (fun l _ _ δ hle h => ⟨h.1.mono hle, h.2⟩) (fun pre x J v δ hp hxv hd => by obtain ⟨hd1, hd⟩ := hd; subst hd; exact FDoes.mono (FDoes.ofFunc (caps := [_, _, _]) pl165 (Term1_does hxv hd1)) (fun _ _ _ hle h => ⟨hd1.mono hle, h⟩)) t.size t (Nat.le_refl _) true [] _ _ _ (by simpa using hbig) (hv.mono Imm.leA) ⟨hg.mono Imm.leA, rfl⟩)) Parts.all ?_
      rintro v21 I21 _ hI21 ⟨_, rfl⟩
      rw [List.append_nil, List.nil_append]
      unfold SeeG
      refine ops_nil ?_
      refine post_next ?_
      refine code_seq ?_
      refine code_block ?_
      refine code_seq ?_
      refine code_region ?_
      refine op_v (v_loadA ty4 rfl rfl) rfl ?_
      by_cases h22 : unkG gs t = true
      · rw [show (visT true t).any (unkB gs) = true from h22]
        refine op_v (v_assign rfl) rfl ?_
        refine ops_nil ?_
        refine post_next ?_
        refine code_cond_t rfl ?_
        refine code_seq ?_
        refine code_region ?_
        refine op_v (v_assign rfl) rfl ?_
        refine ops_nil ?_
        refine post_next ?_
        refine code_ret ?_
        refine post_ret_block ?_
        refine post_ret_then ?_
        refine post_ret (rs := [.tmp 4]) rfl (List.Perm.refl _) (.cons (.tmp rfl) .nil) (List.nil_sublist _) ?_
        exact ⟨by simp only [outV, termG]; rw [if_neg h12, if_neg h17, if_pos h22], rfl⟩
      · rw [show (visT true t).any (unkB gs) = false by simpa [unkG] using h22]
        refine op_v (v_assign rfl) rfl ?_
        refine ops_nil ?_
        refine post_next ?_
        refine code_cond_f rfl ?_
        refine code_seq ?_
        refine code_region ?_
        refine op_v (v_loadA ty4 rfl rfl) rfl ?_
        by_cases h24 : mixG gs t = true
        · rw [show (visT true t).any (mixB gs) = true from h24]
          refine op_v (v_assign rfl) rfl ?_
          refine ops_nil ?_
          refine post_next ?_
          refine code_cond_t rfl ?_
          refine code_seq ?_
          refine code_region ?_
          refine op_v (v_assign rfl) rfl ?_
          refine ops_nil ?_
          refine post_next ?_
          refine code_ret ?_
          refine post_ret_block ?_
          refine post_ret_then ?_
          refine post_ret (rs := [.tmp 4]) rfl (List.Perm.refl _) (.cons (.tmp rfl) .nil) (List.nil_sublist _) ?_
          exact ⟨by simp only [outV, termG]; rw [if_neg h12, if_neg h17, if_neg h22, if_pos h24], rfl⟩
        · rw [show (visT true t).any (mixB gs) = false by simpa [mixG] using h24]
          refine op_v (v_assign rfl) rfl ?_
          refine ops_nil ?_
          refine post_next ?_
          refine code_cond_f rfl ?_
          refine code_skip ?_
          refine post_out ?_
          refine post_next ?_
          refine code_seq ?_
          refine code_region ?_
          refine op_v (v_assign rfl) rfl ?_
          refine ops_nil ?_
          refine post_next ?_
          refine code_ret ?_
          refine post_ret (rs := [.tmp 4]) rfl (List.Perm.refl _) (.cons (.tmp rfl) .nil) (List.nil_sublist _) ?_
          exact ⟨by simp only [outV, termG]; rw [if_neg h12, if_neg h17, if_neg h22, if_neg h24], rfl⟩
end Go.Proofs.YtdbadicpbmndbaaGreat
/- Walks: how heavy a term is, how often its variables stand in it. -/
set_option linter.unusedVariables false
set_option linter.unusedSimpArgs false
/- short -/
namespace Go.Proofs.YtdbadicpbmndbaaGreat
open Go Lg

def wtG (gs : List Sy) (h : Int) : Int := (gs[h.toNat]?.map Sy.wt).getD 0
def wB (gs : List Sy) (h : Int) : Int := if h < 0 then 1 else wtG gs h
def wgtG (gs : List Sy) (t : T) : Int := ((hds t).map (wB gs)).sum
theorem wtG_at {gs : List Sy} {h : Int} (h0 : 0 ≤ h) (hl : h < gs.length) : wtG gs h = (gs[h.toNat]'(by omega)).wt := by
  have : h.toNat < gs.length := by omega
  simp [wtG, this]
structure OkG (gs : List Sy) (t : T) : Prop where
  right : rightG gs = true
  chk : chkT t = 0
  unk : unkG gs t = false
  mix : mixG gs t = false
theorem termG_ok {gs : List Sy} {t : T} : termG gs t = 0 ↔ OkG gs t := by
  unfold termG
  constructor
  · intro h
    split at h
    · rename_i h1; exact absurd h h1
    · rename_i h1
      split at h
      · rename_i h2; exact absurd h h2
      · rename_i h2
        split at h
        · cases h
        · rename_i h3
          split at h
          · cases h
          · rename_i h4
            refine ⟨?_, by simpa using h2, by simpa using h3, by simpa using h4⟩
            unfold chkG at h1
            by_cases hr : rightG gs = true
            · exact hr
            · rw [if_neg hr] at h1; simp at h1
  · rintro ⟨h1, h2, h3, h4⟩
    have : chkG gs = 0 := by simp [chkG, h1]
    simp [this, h2, h3, h4]
theorem chkT_size {t : T} (h : chkT t = 0) : t.size ≤ 400 := by
  unfold chkT at h
  split at h
  · cases h
  · omega
theorem OkG.head {gs : List Sy} {t : T} (h : OkG gs t) : ∀ k ∈ hds t, k < 0 ∨ (0 ≤ k ∧ k < gs.length) := by
  intro k hk
  obtain ⟨x, hx, rfl⟩ := List.mem_map.1 hk
  have h1 := h.unk
  unfold unkG at h1
  rw [List.any_eq_false] at h1
  have h2 := h1 x hx
  simp only [unkB, Bool.and_eq_true, decide_eq_true_eq, Bool.or_eq_true, not_and, not_or] at h2
  by_cases h3 : x.2.head < 0
  · exact .inl h3
  · have := (h2 (by omega)).1; exact .inr ⟨by omega, by omega⟩
theorem right_wt {gs : List Sy} (h : rightG gs = true) (i : Nat) (hi : i < gs.length) : 1 ≤ gs[i].wt ∧ gs[i].wt ≤ 1000 := by
  have := rightG_at h i hi
  simp only [badS, Bool.or_eq_false_iff, decide_eq_false_iff_not] at this
  omega
theorem wB_range {gs : List Sy} (h : rightG gs = true) {k : Int} (hk : k < 0 ∨ (0 ≤ k ∧ k < gs.length)) : 1 ≤ wB gs k ∧ wB gs k ≤ 1000 := by
  unfold wB
  rcases hk with hk | ⟨h0, h1⟩
  · rw [if_pos hk]; omega
  · rw [if_neg (by omega), wtG_at h0 h1]; exact right_wt h _ _
theorem sum_range (w : Int → Int) : ∀ l : List Int, (∀ k ∈ l, 1 ≤ w k ∧ w k ≤ 1000) → (l.length : Int) ≤ (l.map w).sum ∧ (l.map w).sum ≤ 1000 * l.length
  | [], _ => by simp
  | x :: r, h => by
    have h1 := h x (List.mem_cons_self ..)
    have h2 := sum_range w r (fun k hk => h k (List.mem_cons_of_mem _ hk))
    simp only [List.map_cons, List.sum_cons, List.length_cons]
    omega
theorem wgtG_range {gs : List Sy} {t : T} (h : OkG gs t) : (t.size : Int) ≤ wgtG gs t ∧ wgtG gs t ≤ 400000 := by
  have h1 := sum_range (wB gs) (hds t) (fun k hk => wB_range h.right (h.head k hk))
  have h2 := chkT_size h.chk
  rw [hds_length] at h1
  unfold wgtG
  omega
end Go.Proofs.YtdbadicpbmndbaaGreat
/- Walks: how often a term's variables stand in it. -/
set_option linter.unusedVariables false
set_option linter.unusedSimpArgs false
/- short -/
namespace Go.Proofs.YtdbadicpbmndbaaGreat
open Go Lg

/-- what the numbers are on the way, some entries still to come -/
def CInv (l0 : List Int) (left : Mp) (cs : List Int) : Prop :=
  cs.length ≤ 256 ∧ (∀ v : Nat, v < 256 → cs.getD v 0 = if mget left (-1 - (v : Int)) = none then ((l0.count (-1 - (v : Int)) : Nat) : Int) else 0) ∧ (∀ n, cs.length = n + 1 → cs.getD n 0 ≠ 0)
theorem mget_mid : ∀ {l q : Mp} {k : Int} {u : Value}, ((l ++ (k, u) :: q).map (·.1)).Nodup → ∀ j, mget (l ++ (k, u) :: q) j = if k = j then some u else mget (l ++ q) j
  | [], q, k, u, hn, j => by simp [mget]
  | (k', z) :: l, q, k, u, hn, j => by
    simp only [List.cons_append, List.map_cons, List.nodup_cons] at hn
    have hne : k' ≠ k := fun e => hn.1 (by subst e; simp)
    simp only [List.cons_append, mget, mget_mid hn.2 j]
    by_cases h : k' = j
    · subst h; rw [if_pos rfl, if_neg (fun e => hne e.symm), if_pos rfl]
    · rw [if_neg h, if_neg h]
theorem mget_ne {l q : Mp} {k : Int} {u : Value} {j : Int} (hn : ((l ++ (k, u) :: q).map (·.1)).Nodup) (h : k ≠ j) : mget (l ++ (k, u) :: q) j = mget (l ++ q) j := by rw [mget_mid hn, if_neg h]
theorem mid_none {l q : Mp} {k : Int} {u : Value} (hn : ((l ++ (k, u) :: q).map (·.1)).Nodup) : mget (l ++ q) k = none := by
  rw [mget_none]
  simp only [List.map_append, List.map_cons, List.nodup_append, List.nodup_cons] at hn
  obtain ⟨h1, ⟨h2, h3⟩, h4⟩ := hn
  intro hm
  rw [List.map_append, List.mem_append] at hm
  rcases hm with hm | hm
  · exact h4 k hm k (by simp) rfl
  · exact h2 hm
theorem CInv.skip {l0 : List Int} {l q : Mp} {k : Int} {u : Value} {cs : List Int} (hn : ((l ++ (k, u) :: q).map (·.1)).Nodup) (h : CInv l0 (l ++ (k, u) :: q) cs) (hk : -1 - k < 0 ∨ 255 < -1 - k) : CInv l0 (l ++ q) cs := by
  obtain ⟨h1, h2, h3⟩ := h
  refine ⟨h1, fun v hv => ?_, h3⟩
  rw [h2 v hv, mget_ne hn (by omega)]
theorem getD_ext (cs : List Int) (j v : Nat) : (cs ++ List.replicate j 0).getD v 0 = cs.getD v 0 := by
  simp only [List.getD_eq_getElem?_getD]
  by_cases h : v < cs.length
  · rw [List.getElem?_append_left h]
  · rw [List.getElem?_append_right (by omega), List.getElem?_replicate, List.getElem?_eq_none_iff.2 (by omega)]
    split <;> rfl
theorem CInv.step {l0 : List Int} {l q : Mp} {k : Int} {u : Value} {cs : List Int} {v j : Nat} (hn : ((l ++ (k, u) :: q).map (·.1)).Nodup) (h : CInv l0 (l ++ (k, u) :: q) cs) (hk : k = -1 - (v : Int)) (hv : v < 256) (hc : 0 < l0.count k) (hlen : v < cs.length + j) (hj : j = 0 ∨ cs.length + j = v + 1) :
    CInv l0 (l ++ q) ((cs ++ List.replicate j 0).set v (l0.count k : Nat)) := by
  obtain ⟨h1, h2, h3⟩ := h
  have hl : ((cs ++ List.replicate j (0 : Int)).set v ((l0.count k : Nat) : Int)).length = cs.length + j := by simp
  have hg : ∀ w : Nat, ((cs ++ List.replicate j (0 : Int)).set v ((l0.count k : Nat) : Int)).getD w 0 = if w = v then ((l0.count k : Nat) : Int) else cs.getD w 0 := fun w => by
    by_cases hw : w = v
    · subst hw
      rw [if_pos rfl, List.getD_eq_getElem?_getD, List.getElem?_set_self (by simp; omega)]; rfl
    · rw [if_neg hw, ← getD_ext cs j w, List.getD_eq_getElem?_getD, List.getElem?_set_ne (by omega), ← List.getD_eq_getElem?_getD]
  refine ⟨by rw [hl]; omega, fun w hw => ?_, fun n hn' => ?_⟩
  · rw [hg w]
    by_cases e : w = v
    · subst e
      rw [if_pos rfl, ← hk, mid_none hn, if_pos rfl]
    · rw [if_neg e, h2 w hw, mget_ne hn (by omega)]
  · rw [hl] at hn'
    rw [hg n]
    by_cases e : n = v
    · rw [if_pos e]; omega
    · rw [if_neg e]
      have hj0 : j = 0 := by omega
      exact h3 n (by omega)
theorem CInv.last {l0 : List Int} {cs : List Int} (h : CInv l0 [] cs) : ∀ v : Nat, v < 256 → cs.getD v 0 = ((l0.count (-1 - (v : Int)) : Nat) : Int) := fun v hv => by
  rw [h.2.1 v hv]; simp [mget]
theorem CInv.in {l0 : List Int} {left : Mp} {cs : List Int} (h : CInv l0 left cs) (hb : l0.length ≤ 1000000000) : ∀ x ∈ cs, InR x := by
  intro x hx
  obtain ⟨v, hv, rfl⟩ := List.getElem_of_mem hx
  have h1 := h.1
  have h2 := h.2.1 v (by omega)
  rw [List.getD_eq_getElem?_getD, List.getElem?_eq_getElem hv, Option.getD_some] at h2
  rw [h2]
  have := List.count_le_length (a := -1 - (v : Int)) (l := l0)
  unfold InR
  split <;> omega

mutual
theorem repT_heads0 : ∀ (t : T) {I : Imm} {v : Value}, RepT I v t → ∀ k ∈ (visT true t).map (·.2.head), InR k
  | .mk h us, I, v, hv, k, hk => by
    obtain ⟨ad, c, ss, rfl, hr, _, _, _, hsub⟩ := hv.elim
    simp only [visT, List.map_cons, List.mem_cons] at hk
    rcases hk with rfl | hk
    · exact hr
    · exact repL_heads0 us (fun i hi => ⟨I, _, hsub i hi⟩) k hk
theorem repL_heads0 : ∀ (us : List T), (∀ i (h : i < us.length), ∃ I v, RepT I v us[i]) → ∀ k ∈ (visL us).map (·.2.head), InR k
  | [], _, k, hk => by simp [visL] at hk
  | t :: r, h, k, hk => by
    simp only [visL, List.map_append, List.mem_append] at hk
    rcases hk with hk | hk
    · obtain ⟨I, v, hv⟩ := h 0 (by simp)
      refine repT_heads0 t hv k ?_
      rw [visT_eq] at hk ⊢
      exact hk
    · exact repL_heads0 r (fun i hi => h (i + 1) (by simpa using hi)) k hk
end
theorem repT_heads {I : Imm} {v : Value} {t : T} (hv : RepT I v t) {k : Int} (hk : k ∈ hds t) : InR k := repT_heads0 t hv k hk

end Go.Proofs.YtdbadicpbmndbaaGreat
/- Walks: the example of the chapter on weights. -/
set_option linter.unusedVariables false
set_option linter.unusedSimpArgs false
/- short -/
namespace Go.Proofs.YtdbadicpbmndbaaGreat
open Go Lg

def tC : T := .mk 2 [.mk (-1) [], .mk 1 [.mk (-1) []]]
end Go.Proofs.YtdbadicpbmndbaaGreat
/- Walks: the example of the chapter on weights; the statement on names. -/
set_option linter.unusedVariables false
set_option linter.unusedSimpArgs false
/- short -/
namespace Go.Proofs.YtdbadicpbmndbaaGreat
open Go Lg

end Go.Proofs.YtdbadicpbmndbaaGreat
/- Walk: the statement on places under others. -/
set_option linter.unusedVariables false
set_option linter.unusedSimpArgs false
/- short -/
namespace Go.Proofs.YtdbadicpbmndbaaGreat
open Go Lg

end Go.Proofs.YtdbadicpbmndbaaGreat
/- Plain facts on places: what is put is there, what is apart stays. No condition. -/
set_option linter.unusedVariables false
set_option linter.unusedSimpArgs false
namespace Go.Proofs.YtdbadicpbmndbaaGreat
open Go Lg

/-! ### contracts, with their answers by name -/
end Go.Proofs.YtdbadicpbmndbaaGreat
/- Walks: the statement on how heavy parts are. -/
set_option linter.unusedVariables false
set_option linter.unusedSimpArgs false
/- short -/
namespace Go.Proofs.YtdbadicpbmndbaaGreat
open Go Lg

def sumV (gs : List Sy) (l : List (Bool × T)) : Int := (l.map fun x => wB gs x.2.head).sum
theorem sumV_app (gs : List Sy) (a b : List (Bool × T)) : sumV gs (a ++ b) = sumV gs a + sumV gs b := by simp [sumV]
theorem wgtG_eq (gs : List Sy) (t : T) : wgtG gs t = wB gs t.head + sumV gs (visL t.args) := by
  unfold wgtG hds sumV
  rw [visT_eq, List.map_cons, List.map_cons, List.sum_cons, List.map_map]
  rfl
theorem sumV_T (gs : List Sy) (b : Bool) (t : T) : sumV gs (visT b t) = wgtG gs t := by
  rw [wgtG_eq, visT_eq]; simp [sumV]
theorem sumV_nonneg {gs : List Sy} (hr : rightG gs = true) : ∀ l : List (Bool × T), (∀ x ∈ l, x.2.head < 0 ∨ (0 ≤ x.2.head ∧ x.2.head < gs.length)) → (l.length : Int) ≤ sumV gs l
  | [], _ => by simp [sumV]
  | x :: r, h => by
    have h1 := wB_range hr (h x (List.mem_cons_self ..))
    have h2 := sumV_nonneg hr r (fun y hy => h y (List.mem_cons_of_mem _ hy))
    unfold sumV at *
    simp only [List.map_cons, List.sum_cons, List.length_cons]; omega
theorem visL_split (us : List T) (i : Nat) (hi : i < us.length) : visL us = visL (us.take i) ++ (visT false us[i] ++ visL (us.drop (i + 1))) := by
  conv => lhs; rw [← List.take_append_drop i us, List.drop_eq_getElem_cons hi]
  rw [visL_app]; rfl
theorem any_visT_unk (gs : List Sy) (a b : Bool) (t : T) : (visT a t).any (unkB gs) = (visT b t).any (unkB gs) := by
  rw [visT_eq, visT_eq]; rfl
theorem OkG.heads {gs : List Sy} {t : T} (h : OkG gs t) : ∀ x ∈ visT true t, x.2.head < 0 ∨ (0 ≤ x.2.head ∧ x.2.head < gs.length) :=
  fun x hx => h.head x.2.head (List.mem_map_of_mem (f := fun y : Bool × T => y.2.head) hx)
theorem OkG.child {gs : List Sy} {t : T} (h : OkG gs t) (i : Nat) (hi : i < t.args.length) : OkG gs t.args[i] ∧ wgtG gs t.args[i] < wgtG gs t := by
  obtain ⟨hd, us⟩ := t
  have hi' : i < us.length := hi
  have hs := visL_split us i hi'
  have hh := h.heads
  rw [visT_eq] at hh
  refine ⟨⟨h.right, chk_part h.chk i hi', ?_, ?_⟩, ?_⟩
  · have h1 := h.unk
    unfold unkG at h1 ⊢
    rw [visT_eq, List.any_cons, Bool.or_eq_false_iff] at h1
    have h2 := h1.2
    change (visL us).any (unkB gs) = false at h2
    rw [hs, List.any_append, List.any_append, Bool.or_eq_false_iff, Bool.or_eq_false_iff] at h2
    rw [any_visT_unk gs true false]
    exact h2.2.1
  · have h1 := h.mix
    unfold mixG at h1 ⊢
    rw [visT_eq, List.any_cons, Bool.or_eq_false_iff] at h1
    have h2 := h1.2
    change (visL us).any (mixB gs) = false at h2
    rw [hs, List.any_append, List.any_append, Bool.or_eq_false_iff, Bool.or_eq_false_iff] at h2
    have h3 := h2.2.1
    rw [visT_eq, List.any_cons, Bool.or_eq_false_iff] at h3
    rw [visT_eq, List.any_cons, Bool.or_eq_false_iff]
    exact ⟨by simp [mixB], h3.2⟩
  · have h1 := wB_range h.right (hh (true, .mk hd us) (List.mem_cons_self ..))
    have e : wgtG gs (T.mk hd us) = wB gs hd + sumV gs (visL us) := wgtG_eq gs _
    have h4 : ∀ x ∈ visL us, x.2.head < 0 ∨ (0 ≤ x.2.head ∧ x.2.head < gs.length) := fun x hx => hh x (List.mem_cons_of_mem _ hx)
    rw [e, hs, sumV_app, sumV_app, sumV_T]
    have h5 := sumV_nonneg h.right (visL (us.take i)) (fun x hx => h4 x (by rw [hs]; exact List.mem_append_left _ hx))
    have h6 := sumV_nonneg h.right (visL (us.drop (i + 1))) (fun x hx => h4 x (by rw [hs]; exact List.mem_append_right _ (List.mem_append_right _ hx)))
    have h7 : 1 ≤ wB gs hd := h1.1
    show wgtG gs us[i] < _
    omega
theorem OkG.at {gs : List Sy} : ∀ (p : List Int) {t u : T}, OkG gs t → atT t p = some u → OkG gs u ∧ (p = [] ∨ wgtG gs u < wgtG gs t)
  | [], t, u, h, hu => by simp [atT] at hu; subst hu; exact ⟨h, .inl rfl⟩
  | x :: r, t, u, h, hu => by
    rw [atT_c] at hu
    split at hu
    · rename_i hx
      obtain ⟨h1, h2⟩ := h.child x.toNat hx.2
      obtain ⟨h3, h4⟩ := OkG.at r h1 hu
      refine ⟨h3, .inr ?_⟩
      rcases h4 with rfl | h4
      · simp [atT] at hu; subst hu; exact h2
      · omega
    · cases hu

end Go.Proofs.YtdbadicpbmndbaaGreat
/- Walks: a term with all put; how heavy that is. -/
set_option linter.unusedVariables false
set_option linter.unusedSimpArgs false
/- short -/
namespace Go.Proofs.YtdbadicpbmndbaaGreat
open Go Lg

/-! ### the plain law -/
mutual
theorem snd_T : ∀ (d : Nat) (b : Bool) (t : T), (partsT d t).map (·.2) = (visT b t).map (·.2)
  | d, b, .mk h us => by simp only [partsT, visT, List.map_cons, snd_L (d + 1) us]
theorem snd_L : ∀ (d : Nat) (us : List T), (partsL d us).map (·.2) = (visL us).map (·.2)
  | _, [] => rfl
  | d, t :: r => by simp only [partsL, visL, List.map_append, snd_T d false t, snd_L d r]
end
theorem chk_vis {t : T} (h : chkT t = 0) : ∀ x ∈ visT true t, (x.2.head < 0 → x.2.args = []) ∧ -256 ≤ x.2.head := by
  intro x hx
  have h1 : (partsT 1 t).any badN = false := by
    unfold chkT at h
    split at h
    · cases h
    · split at h
      · cases h
      · split at h
        · cases h
        · rename_i hq; exact Bool.eq_false_iff.2 hq
  have h2 : x.2 ∈ (partsT 1 t).map (·.2) := by rw [snd_T 1 true t]; exact List.mem_map_of_mem hx
  obtain ⟨y, hy, hyx⟩ := List.mem_map.1 h2
  rw [List.any_eq_false] at h1
  have h3 := h1 y hy
  simp only [badN, Bool.or_eq_true, Bool.and_eq_true, decide_eq_true_eq, not_or, not_and, hyx] at h3
  obtain ⟨⟨⟨h4, h5⟩, _⟩, _⟩ := h3
  refine ⟨fun hn => List.eq_nil_of_length_eq_zero (by have := h4 hn; omega), by omega⟩
def accF (F : Int → Int) (l : List Int) : Nat → Int
  | 0 => 0
  | n + 1 => accF F l n + ((l.count (-1 - (n : Int)) : Nat) : Int) * F (-1 - (n : Int))
def moreF (gs : List Sy) (bs : List Bi) (k : Int) : Int := wgtG gs (ofT bs (.mk k [])) - 1
structure Puts (gs : List Sy) (bs : List Bi) (t : T) (cs : List Int) : Prop where
  tot : wgtG gs (sbT bs t) = wgtG gs t + accF (moreF gs bs) (hds t) cs.length
  ok : ∀ v : Nat, v < cs.length → cs.getD v 0 ≠ 0 → OkG gs (ofT bs (.mk (-1 - (v : Int)) []))
  get : ∀ v : Nat, v < cs.length → cs.getD v 0 = (((hds t).count (-1 - (v : Int)) : Nat) : Int)
  le : ∀ v : Nat, v ≤ cs.length → 0 ≤ accF (moreF gs bs) (hds t) v ∧ accF (moreF gs bs) (hds t) v ≤ 400000
  one : ∀ v : Nat, v < cs.length → 0 ≤ (((hds t).count (-1 - (v : Int)) : Nat) : Int) * moreF gs bs (-1 - (v : Int))
  len : cs.length ≤ 256
end Go.Proofs.YtdbadicpbmndbaaGreat
/- The order of terms: plain facts. No condition. -/
set_option linter.unusedVariables false
set_option linter.unusedSimpArgs false
namespace Go.Proofs.YtdbadicpbmndbaaGreat

abbrev cn (t : T) (k : Int) : Nat := (hds t).count k
def vleB (a b : T) : Bool := (hds b).all fun k => decide (0 ≤ k) || decide (cn b k ≤ cn a k)
theorem vleB_iff {a b : T} : vleB a b = true ↔ ∀ k : Int, k < 0 → cn b k ≤ cn a k := by
  unfold vleB
  rw [List.all_eq_true]
  constructor
  · intro h k hk
    by_cases hm : k ∈ hds b
    · have := h k hm
      simp only [Bool.or_eq_true, decide_eq_true_eq] at this
      rcases this with h1 | h1
      · omega
      · exact h1
    · have : cn b k = 0 := List.count_eq_zero.2 hm
      omega
  · intro h k hm
    simp only [Bool.or_eq_true, decide_eq_true_eq]
    by_cases hk : k < 0
    · exact .inr (h k hk)
    · exact .inl (by omega)
def sideG (a b : T) (n : Int) : Int := if 0 < n ∧ vleB a b = true then 1 else if n < 0 ∧ vleB b a = true then -1 else 2
mutual
def stT (gs : List Sy) : T → T → Int
  | .mk h us, b =>
    if T.mk h us = b then 0
    else if wgtG gs (.mk h us) ≠ wgtG gs b then sideG (.mk h us) b (wgtG gs (.mk h us) - wgtG gs b)
    else if h < 0 ∨ b.head < 0 then 2
    else if h ≠ b.head then sideG (.mk h us) b (h - b.head)
    else if stL gs us b.args = 0 then 0
    else if stL gs us b.args = 2 then 2
    else sideG (.mk h us) b (stL gs us b.args)
def stL (gs : List Sy) : List T → List T → Int
  | a :: r, b :: q => if stT gs a b ≠ 0 then stT gs a b else stL gs r q
  | _, _ => 0
end
theorem stT_eq (gs : List Sy) (a b : T) : stT gs a b =
    if a = b then 0
    else if wgtG gs a ≠ wgtG gs b then sideG a b (wgtG gs a - wgtG gs b)
    else if a.head < 0 ∨ b.head < 0 then 2
    else if a.head ≠ b.head then sideG a b (a.head - b.head)
    else if stL gs a.args b.args = 0 then 0
    else if stL gs a.args b.args = 2 then 2
    else sideG a b (stL gs a.args b.args) := by
  cases a; rw [stT]; rfl
theorem sideG_vals (a b : T) (n : Int) : sideG a b n = 1 ∨ sideG a b n = -1 ∨ sideG a b n = 2 := by
  unfold sideG; split
  · exact .inl rfl
  · split
    · exact .inr (.inl rfl)
    · exact .inr (.inr rfl)
mutual
theorem stT_vals (gs : List Sy) : ∀ (a b : T), stT gs a b = 0 ∨ stT gs a b = 1 ∨ stT gs a b = -1 ∨ stT gs a b = 2
  | .mk h us, b => by
    rw [stT]
    split
    · exact .inl rfl
    · split
      · exact .inr (sideG_vals _ _ _)
      · split
        · exact .inr (.inr (.inr rfl))
        · split
          · exact .inr (sideG_vals _ _ _)
          · split
            · exact .inl rfl
            · split
              · exact .inr (.inr (.inr rfl))
              · exact .inr (sideG_vals _ _ _)
theorem stL_vals (gs : List Sy) : ∀ (l m : List T), stL gs l m = 0 ∨ stL gs l m = 1 ∨ stL gs l m = -1 ∨ stL gs l m = 2
  | [], m => by cases m <;> exact .inl rfl
  | a :: r, [] => .inl rfl
  | a :: r, b :: q => by
    simp only [stL]
    split
    · exact stT_vals gs a b
    · exact stL_vals gs r q
end
theorem stT_self (gs : List Sy) (a : T) : stT gs a a = 0 := by rw [stT_eq, if_pos rfl]
theorem stL_self (gs : List Sy) : ∀ l : List T, stL gs l l = 0
  | [] => rfl
  | a :: r => by simp [stL, stT_self, stL_self gs r]
/-- when a term is greater -/
theorem stT_one (gs : List Sy) (a b : T) : stT gs a b = 1 ↔ vleB a b = true ∧ (wgtG gs b < wgtG gs a ∨ (wgtG gs a = wgtG gs b ∧ 0 ≤ a.head ∧ 0 ≤ b.head ∧ (b.head < a.head ∨ (a.head = b.head ∧ stL gs a.args b.args = 1)))) := by
  rw [stT_eq]
  by_cases h1 : a = b
  · subst h1
    rw [if_pos rfl, stL_self]
    constructor
    · intro h; omega
    · rintro ⟨_, h | ⟨_, _, _, h | ⟨_, h⟩⟩⟩ <;> omega
  · rw [if_neg h1]
    by_cases h2 : wgtG gs a = wgtG gs b
    · rw [if_neg (by omega)]
      by_cases h3 : a.head < 0 ∨ b.head < 0
      · rw [if_pos h3]
        constructor
        · intro h; omega
        · rintro ⟨_, h | ⟨_, h, h', _⟩⟩ <;> omega
      · rw [if_neg h3]
        by_cases h4 : a.head = b.head
        · rw [if_neg (by omega)]
          have hv := stL_vals gs a.args b.args
          generalize stL gs a.args b.args = c at hv
          have h5 : 0 ≤ a.head ∧ 0 ≤ b.head := by omega
          rcases hv with rfl | rfl | rfl | rfl
          · simp [h2, h4]
          · unfold sideG; cases vleB a b <;> simp [h2, h4] <;> omega
          · unfold sideG; cases vleB b a <;> simp [h2, h4]
          · simp [h2, h4]
        · rw [if_pos h4]
          unfold sideG
          cases vleB a b
          · simp; split <;> omega
          · by_cases h5 : b.head < a.head
            · simp [h2, h5] <;> omega
            · simp [h2, h5, h4]; split <;> omega
    · rw [if_pos h2]
      unfold sideG
      cases vleB a b
      · simp; split <;> omega
      · by_cases h5 : wgtG gs b < wgtG gs a
        · simp [h5] <;> omega
        · simp [h5, h2]; split <;> omega

/-! ### on right terms -/
theorem OkG.arity {gs : List Sy} {t : T} (h : OkG gs t) (h0 : 0 ≤ t.head) : (t.args.length : Int) = arG gs t.head := by
  have h1 := h.unk
  unfold unkG at h1
  rw [visT_eq, List.any_cons, Bool.or_eq_false_iff] at h1
  have h2 := h1.1
  simp only [unkB, Bool.and_eq_false_iff, decide_eq_false_iff_not, Bool.or_eq_false_iff] at h2
  rcases h2 with h2 | h2
  · exact absurd h0 h2
  · have := h2.2; simpa using this
theorem OkG.args {gs : List Sy} {t : T} (h : OkG gs t) : ∀ x ∈ t.args, OkG gs x := fun x hx => by
  obtain ⟨i, hi, rfl⟩ := List.getElem_of_mem hx
  exact (h.child i hi).1
theorem OkG.leaf {gs : List Sy} {t : T} (h : OkG gs t) (hn : t.head < 0) : t.args = [] := (chk_vis h.chk (true, t) (by rw [visT_eq]; exact List.mem_cons_self ..)).1 hn
mutual
theorem stT_zero {gs : List Sy} : ∀ {a b : T}, OkG gs a → OkG gs b → stT gs a b = 0 → a = b
  | .mk h us, b, ha, hb, e => by
    rw [stT_eq] at e
    by_cases h1 : T.mk h us = b
    · exact h1
    · rw [if_neg h1] at e
      have hs : ∀ n, sideG (T.mk h us) b n ≠ 0 := fun n => by rcases sideG_vals (T.mk h us) b n with q | q | q <;> omega
      by_cases h2 : wgtG gs (T.mk h us) = wgtG gs b
      · rw [if_neg (by omega)] at e
        by_cases h3 : (T.mk h us).head < 0 ∨ b.head < 0
        · rw [if_pos h3] at e; omega
        · rw [if_neg h3] at e
          by_cases h4 : (T.mk h us).head = b.head
          · have ea : (T.mk h us).args = us := rfl
            rw [if_neg (by omega), ea] at e
            by_cases h5 : stL gs us b.args = 0
            · have l1 := ha.arity (by omega)
              have l2 := hb.arity (by omega)
              rw [h4] at l1
              have hl : us.length = b.args.length := by
                have : ((T.mk h us).args.length : Int) = b.args.length := by omega
                exact Int.ofNat.inj this
              have := stL_zero hl ha.args hb.args h5
              cases b
              simp only [T.args] at this
              simp only [T.head] at h4
              rw [this, h4]
            · rw [if_neg h5] at e
              split at e
              · omega
              · exact absurd e (hs _)
          · rw [if_pos h4] at e; exact absurd e (hs _)
      · rw [if_pos h2] at e; exact absurd e (hs _)
theorem stL_zero {gs : List Sy} : ∀ {l m : List T}, l.length = m.length → (∀ x ∈ l, OkG gs x) → (∀ x ∈ m, OkG gs x) → stL gs l m = 0 → l = m
  | [], [], _, _, _, _ => rfl
  | [], _ :: _, h, _, _, _ => by simp at h
  | _ :: _, [], h, _, _, _ => by simp at h
  | a :: r, b :: q, h, ha, hb, e => by
    simp only [stL] at e
    by_cases h1 : stT gs a b = 0
    · rw [if_neg (by omega)] at e
      rw [stT_zero (ha a (List.mem_cons_self ..)) (hb b (List.mem_cons_self ..)) h1, stL_zero (by simpa using h) (fun x hx => ha x (List.mem_cons_of_mem _ hx)) (fun x hx => hb x (List.mem_cons_of_mem _ hx)) e]
    · rw [if_pos h1] at e; exact absurd e h1
end
end Go.Proofs.YtdbadicpbmndbaaGreat
/- The order of terms and places, and what is put: plain facts. No condition. -/
set_option linter.unusedVariables false
set_option linter.unusedSimpArgs false
namespace Go.Proofs.YtdbadicpbmndbaaGreat

/-! ### counts -/
def cnV (l : List (Bool × T)) (k : Int) : Nat := (l.map (·.2.head)).count k
theorem cnV_app (a b : List (Bool × T)) (k : Int) : cnV (a ++ b) k = cnV a k + cnV b k := by simp [cnV, List.count_append]
theorem cnV_T (b : Bool) (t : T) (k : Int) : cnV (visT b t) k = cn t k := by
  show ((visT b t).map (·.2.head)).count k = ((visT true t).map (·.2.head)).count k
  rw [visT_eq, visT_eq]; rfl
theorem cn_eq (t : T) (k : Int) : cn t k = (if t.head = k then 1 else 0) + cnV (visL t.args) k := by
  show ((visT true t).map (·.2.head)).count k = _
  rw [visT_eq, List.map_cons, List.count_cons]
  unfold cnV
  by_cases h : t.head = k
  · simp [h]; omega
  · simp [h]
/-! ### the same around both -/
/-! ### what is put -/
end Go.Proofs.YtdbadicpbmndbaaGreat
/- Rows of terms: plain facts. No condition. -/
set_option linter.unusedVariables false
set_option linter.unusedSimpArgs false
namespace Go.Proofs.YtdbadicpbmndbaaGreat

/-- a row without what another one has, as often -/
def rsL : List T → List T → List T
  | [], _ => []
  | t :: r, left => if t ∈ left then rsL r (left.erase t) else t :: rsL r left
theorem rsL_count (x : T) : ∀ (l m : List T), (rsL l m).count x = l.count x - m.count x
  | [], m => by simp [rsL]
  | t :: r, m => by
    simp only [rsL]
    by_cases h : t ∈ m
    · rw [if_pos h, rsL_count x r, List.count_cons, List.count_erase]
      have hp := List.count_pos_iff.2 h
      by_cases e : t = x
      · subst e; simp; omega
      · have e2 : (t == x) = false := by simp [e]
        have e3 : (x == t) = false := by simp [Ne.symm e]
        simp [e2, e3]
    · rw [if_neg h, List.count_cons, List.count_cons, rsL_count x r]
      by_cases e : t = x
      · subst e
        have : m.count t = 0 := List.count_eq_zero.2 h
        simp; omega
      · have e2 : (t == x) = false := by simp [e]
        simp [e2]
theorem rsL_perm {l m l' m' : List T} (h : ∀ x, l.count x - m.count x = l'.count x - m'.count x) : (rsL l m).Perm (rsL l' m') :=
  List.perm_iff_count.2 fun x => by rw [rsL_count, rsL_count]; exact h x
theorem rsL_mem {l m : List T} {x : T} (h : x ∈ rsL l m) : x ∈ l := by
  have := List.count_pos_iff.2 h
  rw [rsL_count] at this
  exact List.count_pos_iff.1 (by omega)
theorem rsL_len : ∀ (l m : List T), (rsL l m).length ≤ l.length
  | [], m => by simp [rsL]
  | t :: r, m => by
    simp only [rsL]
    split
    · have := rsL_len r (m.erase t); simp; omega
    · have := rsL_len r m; simp; omega
def overL (gs : List Sy) (a b : List T) : Bool := decide (0 < a.length) && b.all fun u => a.any fun t => decide (stT gs t u = 1)
theorem overL_perm {gs : List Sy} {a b a' b' : List T} (h : a.Perm a') (k : b.Perm b') : overL gs a b = overL gs a' b' := by
  unfold overL
  rw [h.length_eq]
  congr 1
  rw [Bool.eq_iff_iff, List.all_eq_true, List.all_eq_true]
  constructor
  · intro q u hu
    have := q u (k.mem_iff.2 hu)
    rw [List.any_eq_true] at this ⊢
    obtain ⟨t, ht, h2⟩ := this
    exact ⟨t, h.mem_iff.1 ht, h2⟩
  · intro q u hu
    have := q u (k.mem_iff.1 hu)
    rw [List.any_eq_true] at this ⊢
    obtain ⟨t, ht, h2⟩ := this
    exact ⟨t, h.mem_iff.2 ht, h2⟩
def mulG (gs : List Sy) (a b : List T) : Int :=
  if (rsL a b).length + (rsL b a).length = 0 then 0 else if overL gs (rsL a b) (rsL b a) = true then 1 else if overL gs (rsL b a) (rsL a b) = true then -1 else 2
theorem mulG_perm {gs : List Sy} {a b a' b' : List T} (h : (rsL a b).Perm (rsL a' b')) (k : (rsL b a).Perm (rsL b' a')) : mulG gs a b = mulG gs a' b' := by
  unfold mulG
  rw [h.length_eq, k.length_eq, overL_perm h k, overL_perm k h]
/-- the first error of some -/
def wrongG (gs : List Sy) : List T → Int
  | [] => 0
  | t :: r => if termG gs t ≠ 0 then termG gs t else wrongG gs r
theorem wrongG_ok {gs : List Sy} : ∀ {l : List T}, wrongG gs l = 0 ↔ ∀ t ∈ l, OkG gs t
  | [] => by simp [wrongG]
  | t :: r => by
    simp only [wrongG]
    by_cases h : termG gs t = 0
    · rw [if_neg (by omega), wrongG_ok]
      simp [termG_ok.1 h]
    · rw [if_pos h]
      constructor
      · intro e; exact absurd e h
      · intro e; exact absurd (termG_ok.2 (e t (List.mem_cons_self ..))) h
theorem wrongG_take {gs : List Sy} {l : List T} {k : Nat} (hk : k < l.length) (h : ∀ t ∈ l.take k, termG gs t = 0) (hn : termG gs l[k] ≠ 0) : wrongG gs l = termG gs l[k] := by
  induction l generalizing k with
  | nil => simp at hk
  | cons t r ih =>
    cases k with
    | zero => simp only [List.getElem_cons_zero] at hn ⊢; simp only [wrongG]; rw [if_pos hn]
    | succ k =>
      simp only [List.getElem_cons_succ] at hn ⊢
      have h0 := h t (by simp)
      simp only [wrongG]
      rw [if_neg (by omega)]
      exact ih (by simpa using hk) (fun x hx => h x (by simp [hx])) hn
theorem wrongG_all {gs : List Sy} {l : List T} (h : ∀ t ∈ l, termG gs t = 0) : wrongG gs l = 0 := wrongG_ok.2 fun t ht => termG_ok.1 (h t ht)
end Go.Proofs.YtdbadicpbmndbaaGreat
/- Walks: how two terms stand to one another. -/
set_option linter.unusedVariables false
set_option linter.unusedSimpArgs false
/- short -/
namespace Go.Proofs.YtdbadicpbmndbaaGreat
open Go Lg

/-- a map holds whole numbers -/
def VM (xs : Mp) (D : Int → Int) : Prop := (xs.map (·.1)).Nodup ∧ ∀ k, (mget xs k).getD (.int .i64 0) = .int .i64 (D k)
theorem VM.nil : VM [] (fun _ => 0) := ⟨by simp, fun k => rfl⟩
theorem VM.put {xs : Mp} {D : Int → Int} (h : VM xs D) (k c : Int) : VM (mput xs k (.int .i64 (D k + c))) (fun j => if k = j then D j + c else D j) := by
  refine ⟨mput_nodup h.1, fun j => ?_⟩
  rw [mget_mput]
  by_cases e : k = j
  · subst e; simp
  · rw [if_neg e, h.2 j]; simp only [if_neg e]
theorem VM.entry {xs : Mp} {D : Int → Int} (h : VM xs D) {p : Int × Value} (hp : p ∈ xs) : p.2 = .int .i64 (D p.1) := by
  have h1 := (mget_mem h.1 (k := p.1) (v := p.2)).1 hp
  have h2 := h.2 p.1
  rw [h1] at h2; exact h2
theorem VM.some {xs : Mp} {D : Int → Int} (h : VM xs D) {k : Int} (hk : D k ≠ 0) : ∃ p ∈ xs, p.1 = k ∧ p.2 = .int .i64 (D k) := by
  have h2 := h.2 k
  cases hm : mget xs k with
  | none => rw [hm] at h2; simp at h2; exact absurd h2.symm hk
  | some u => rw [hm] at h2; simp at h2; subst h2; exact ⟨(k, .int .i64 (D k)), (mget_mem h.1).2 hm, rfl, rfl⟩
theorem VM.congr {xs : Mp} {D E : Int → Int} (h : VM xs D) (e : ∀ k, D k = E k) : VM xs E := ⟨h.1, fun k => by rw [h.2 k, e k]⟩
def cv (t : T) (k : Int) : Int := if k < 0 then (cn t k : Int) else 0
def cvV (l : List (Bool × T)) (k : Int) : Int := if k < 0 then (cnV l k : Int) else 0
theorem tm_bound {s x m : Int} (hs : s = 1 ∨ s = -1) (h0 : 0 ≤ x) (hm : x ≤ m) : -m ≤ s * x ∧ s * x ≤ m := by
  rcases hs with rfl | rfl <;> omega
theorem cvV_range (l : List (Bool × T)) (k : Int) : 0 ≤ cvV l k ∧ cvV l k ≤ l.length := by
  unfold cvV cnV
  have : (l.map (·.2.head)).count k ≤ (l.map (·.2.head)).length := List.count_le_length
  rw [List.length_map] at this
  split <;> omega
theorem cvV_app (a b : List (Bool × T)) (k : Int) : cvV (a ++ b) k = cvV a k + cvV b k := by
  unfold cvV; split
  · rw [cnV_app]; simp
  · rfl
theorem cvV_T (b : Bool) (t : T) (k : Int) : cvV (visT b t) k = cv t k := by unfold cvV cv; rw [cnV_T]
abbrev LoadE (b m : Nat) (w : Int) (xs : Mp) : List Ent := [.box b 169 [.int .i64 w, .map (some m)], .map m xs]

theorem add_does {gs : List Sy} {b m : Nat} {vg : Value} {s : Int} (hs : s = 1 ∨ s = -1) : ∀ (n : Nat) (t : T), t.size ≤ n → ∀ (I : Imm) (v : Value) (w : Int) (xs : Mp) (D : Int → Int), RepG I vg gs → RepT I v t → OkG gs t → VM xs D →
    (-1000000000000000 + 1000000 * (t.size : Int) ≤ w ∧ w ≤ 1000000000000000 - 1000000 * (t.size : Int)) → (∀ k, -1000000000000000 + 1000000 * (t.size : Int) ≤ D k ∧ D k ≤ 1000000000000000 - 1000000 * (t.size : Int)) →
    Does Tryz.prog 169 [.pointer (some ⟨b, 0, none⟩), vg, v, .int .i64 s] I (LoadE b m w xs) (fun _ _ δ' => ∃ xs', δ' = LoadE b m (w + s * wgtG gs t) xs' ∧ VM xs' (fun k => D k + s * cv t k)) := by
  intro n
  induction n with
  | zero => intro t h; have := t.size_pos; omega
  | succ n ih =>
    intro t hn I v w xs D hg hv hO hD hw hDb
    obtain ⟨ad, c, rfl⟩ := hg.shape
    obtain ⟨_, hc, hb, hat, hok⟩ := hg.open
    obtain ⟨a0, c0, rfl, hr0⟩ := hv.shape
    obtain ⟨_, _, _, hc0, hb0, ss, hatT, hsub⟩ := hv.open
    have hsz := size_eqT t
    have hsp := t.size_pos
    have h4 := chkT_size hO.chk
    have hheads := hO.heads
    have hhd := hheads (true, t) (by rw [visT_eq]; exact List.mem_cons_self ..)
    have hwB := wB_range hO.right hhd
    simp only at hhd hwB
    have hsw := tm_bound hs (show 0 ≤ wB gs t.head by omega) hwB.2
    have htot := wgtG_range hO
    have hpart : ∀ k, k ≤ t.args.length → 0 ≤ sumV gs (visL (t.args.take k)) ∧ sumV gs (visL (t.args.take k)) ≤ 400000 := fun k hk => by
      have e : sumV gs (visL t.args) = sumV gs (visL (t.args.take k)) + sumV gs (visL (t.args.drop k)) := by rw [← sumV_app, ← visL_app, List.take_append_drop]
      have hin : ∀ x ∈ visL t.args, x.2.head < 0 ∨ (0 ≤ x.2.head ∧ x.2.head < gs.length) := fun x hx => hheads x (by rw [visT_eq]; exact List.mem_cons_of_mem _ hx)
      have e2 : visL t.args = visL (t.args.take k) ++ visL (t.args.drop k) := by rw [← visL_app, List.take_append_drop]
      have h5 := sumV_nonneg hO.right (visL (t.args.take k)) (fun x hx => hin x (by rw [e2]; exact List.mem_append_left _ hx))
      have h6 := sumV_nonneg hO.right (visL (t.args.drop k)) (fun x hx => hin x (by rw [e2]; exact List.mem_append_right _ hx))
      have h7 := wgtG_eq gs t
      omega
    refine Does.intro Tryz.func169 rfl Tryz.ntmps169 rfl fun w0 => ?_
    refine code_seq ?_
    refine code_region ?_
    refine o_box rfl rfl rfl (fun b6 => ?_)
    refine ops_nil ?_
    refine post_next ?_
    refine code_seq ?_
    refine code_seq ?_
    refine code_region ?_
    refine op_v (v_fieldB 0 Tryz.underlying48 rfl rfl fz3 rfl) rfl ?_
    refine op_v (v_loadA ty3 rfl rfl) rfl ?_
    by_cases h12 : t.head < 0
    · have hleaf := hO.leaf h12
      have hw1 : wgtG gs t = 1 := by rw [wgtG_eq, hleaf]; simp [wB, h12, visL, sumV]
      have hcv : ∀ k, cv t k = if t.head = k then 1 else 0 := fun k => by
        unfold cv
        rw [cn_eq, hleaf]
        by_cases e : t.head = k
        · subst e; simp [h12, visL, cnV]
        · simp [e, visL, cnV]
      have hDk := hDb t.head
      refine op_v (v_cmptA rfl rfl rfl) rfl ?_
      refine ops_nil ?_
      refine post_next ?_
      refine code_cond_t rfl ?_
      refine code_seq ?_
      refine code_region ?_
      refine op_v (v_move rfl) rfl ?_
      refine op_v (v_nilCheck rfl) rfl ?_
      refine op_v (v_fieldB 0 Tryz.underlying169 rfl rfl fz3 rfl) rfl ?_
      refine op_v (v_loadA ty3 rfl rfl) rfl ?_
      refine op_v (v_move rfl) rfl ?_
      refine op_v (v_addb rfl rfl rfl (by omega)) rfl ?_
      refine op_v (v_nilCheck rfl) rfl ?_
      refine op_v (v_fieldB 0 Tryz.underlying169 rfl rfl fz3 rfl) rfl ?_
      refine o_store ty3 rfl rfl rfl rfl rfl (by repeat (first | exact Swap.here | apply Swap.there)) rfl ?_
      refine ops_nil ?_
      refine post_next ?_
      refine code_seq ?_
      refine code_draw (.fl 0 (.fl 1 (.fl 2 (.fl 3 (.fl 4 (.fl 5 (.fl 7 (.ef 6 (.fl 8 (.ef 9 .done)))))))))) (fun _ => _) mixed (by kernel_rfl) (by kernel_rfl) (fun _ => (List.Sublist.refl _)) ?_
      refine e_fl rfl rfl (fun hs_ => PF.mk rfl (v_move rfl) hs_) ?_
      refine e_fl rfl rfl (fun hs_ => PF.mk rfl (v_nilCheck rfl) hs_) ?_
      refine e_fl rfl rfl (fun hs_ => PF.mk rfl (v_fieldB 1 Tryz.underlying169 rfl rfl fz102 rfl) hs_) ?_
      refine e_fl rfl rfl (fun hs_ => PF.mk rfl (v_loadA ty102 rfl rfl) hs_) ?_
      refine e_fl rfl rfl (fun hs_ => PF.mk rfl (v_fieldB 0 Tryz.underlying48 rfl rfl fz3 rfl) hs_) ?_
      refine e_fl rfl rfl (fun hs_ => PF.mk rfl (v_loadA ty3 rfl rfl) hs_) ?_
      refine e_fl rfl rfl (fun hs_ => PF.mk rfl (v_move rfl) hs_) ?_
      refine e_eff rfl (by intro cs b hc; cases hc) (by intro c hc; cases hc) ?_
      refine op_v (v_mlook Tryz.underlying102 Tryz.underlying3 z3 rfl rfl (by repeat (first | exact Has.here | apply Has.there)) (hD.2 t.head)) rfl ?_
      refine ops_nil ?_
      refine e_next rfl side_allA ?_
      refine e_fl rfl rfl (fun hs_ => PF.mk rfl (v_addb rfl rfl rfl (by omega)) hs_) ?_
      refine e_eff rfl (by intro cs b hc; cases hc) (by intro c hc; cases hc) ?_
      refine o_mapUpdate Tryz.underlying102 Tryz.underlying3 rfl rfl rfl rfl (by repeat (first | exact Swap.here | apply Swap.there)) ?_
      refine ops_nil ?_
      refine e_next_ (side_nil (by kernel_rfl)) ?_
      refine e_done ?_
      refine post_next ?_
      refine code_ret ?_
      refine post_ret_then ?_
      exact post_ret (rs := []) rfl (List.Perm.refl _) .nil (List.sublist_cons_self _ _) ⟨_, by rw [hw1, Int.mul_one], (hD.put t.head s).congr (fun k => by rw [hcv k]; show (if t.head = k then D k + s else D k) = _; split <;> simp)⟩
    · have hlt : t.head.toNat < gs.length := by omega
      have hs1 := (hat _ hlt).isSome
      have hwq : wB gs t.head = (gs[t.head.toNat]'hlt).wt := by rw [wB, if_neg h12, wtG_at (by omega) (by omega)]
      rw [hwq] at hsw
      obtain ⟨q, hq⟩ : ∃ q : Int, q = s * (gs[t.head.toNat]'hlt).wt := ⟨_, rfl⟩
      rw [← hq] at hsw
      refine op_v (v_cmpfA rfl rfl rfl) rfl ?_
      refine ops_nil ?_
      refine post_next ?_
      refine code_cond_f rfl ?_
      refine code_skip ?_
      refine post_next ?_
      refine code_seq ?_
      refine code_draw (.fl 0 (.fl 1 (.fl 2 (.fl 3 (.fl 4 (.fl 5 (.fl 6 (.fl 7 (.fl 8 (.fl 9 (.fl 10 (.fl 11 (.fl 12 (.fl 13 (.fl 14 (.ef 15 .done)))))))))))))))) (two 13 [.box b6 48 [.int .i64 t.head, .slice a0 t.args.length c0], .box b 169 [.int .i64 w, .map (some m)], .map m xs] []) mixed (by kernel_rfl) (by kernel_rfl) (two_sub (List.Sublist.refl _) (List.nil_sublist _)) ?_
      refine e_float rfl rfl (fun hs_ => PF.mk rfl (v_move rfl) hs_) Imm.leA (by intro x hx; first | exact hx | (change x ∈ [] at hx; cases hx)) ?_
      refine e_float rfl rfl (fun hs_ => PF.mk rfl (v_nilCheck rfl) hs_) Imm.leA (by intro x hx; first | exact hx | (change x ∈ [] at hx; cases hx)) ?_
      refine e_float rfl rfl (fun hs_ => PF.mk rfl (v_fieldB 0 Tryz.underlying169 rfl rfl fz3 rfl) hs_) Imm.leA (by intro x hx; first | exact hx | (change x ∈ [] at hx; cases hx)) ?_
      refine e_float rfl rfl (fun hs_ => PF.mk rfl (v_loadA ty3 rfl rfl) hs_) Imm.leA (by intro x hx; first | exact hx | (change x ∈ [] at hx; cases hx)) ?_
      refine e_float rfl rfl (fun hs_ => PF.mk rfl (v_move rfl) hs_) Imm.leA (by intro x hx; first | exact hx | (change x ∈ [] at hx; cases hx)) ?_
      refine e_float rfl rfl (fun hs_ => PF.mk rfl (v_move rfl) hs_) Imm.leA (by intro x hx; first | exact hx | (change x ∈ [] at hx; cases hx)) ?_
      refine e_float rfl rfl (fun hs_ => PF.mk rfl (v_fieldB 0 Tryz.underlying48 rfl rfl fz3 rfl) hs_) Imm.leA (by intro x hx; first | exact hx | (change x ∈ [] at hx; cases hx)) ?_
      refine e_float rfl rfl (fun hs_ => PF.mk rfl (v_loadA ty3 rfl rfl) hs_) Imm.leA (by intro x hx; first | exact hx | (change x ∈ [] at hx; cases hx)) ?_
      refine e_float rfl rfl (fun hs_ => PF.mk rfl (v_indexIA Tryz.underlying22 sz85 rfl rfl) hs_) Imm.leA (by intro x hx; first | exact hx | (change x ∈ [] at hx; cases hx)) ?_
      refine e_float rfl rfl (fun hs_ => PF.mk rfl (v_fieldI 2 Tryz.underlying85 rfl rfl fz3 rfl (by assumption)) hs_) Imm.leA (by intro x hx; first | exact hx | (change x ∈ [] at hx; cases hx)) ?_
      refine e_float rfl rfl (fun hs_ => PF.mk rfl (v_loadI ty3 ((hat _ hlt)) rfl rfl rfl) hs_) Imm.leA (by intro x hx; first | exact hx | (change x ∈ [] at hx; cases hx)) ?_
      refine e_float rfl rfl (fun hs_ => PF.mk rfl (v_mulb (c := q) rfl rfl hq.symm ⟨by omega, by omega⟩) hs_) Imm.leA (by intro x hx; first | exact hx | (change x ∈ [] at hx; cases hx)) ?_
      refine e_float rfl rfl (fun hs_ => PF.mk rfl (v_addb rfl rfl rfl (by omega)) hs_) Imm.leA (by intro x hx; first | exact hx | (change x ∈ [] at hx; cases hx)) ?_
      refine e_float rfl rfl (fun hs_ => PF.mk rfl (v_nilCheck rfl) hs_) Imm.leA (by intro x hx; first | exact hx | (change x ∈ [] at hx; cases hx)) ?_
      refine e_float rfl rfl (fun hs_ => PF.mk rfl (v_fieldB 0 Tryz.underlying169 rfl rfl fz3 rfl) hs_) Imm.leA (by intro x hx; first | exact hx | (change x ∈ [] at hx; cases hx)) ?_
      refine e_eff rfl (by intro cs b hc; cases hc) (by intro c hc; cases hc) ?_
      refine o_store ty3 rfl rfl rfl rfl rfl (by repeat (first | exact Swap.here | apply Swap.there)) rfl ?_
      refine ops_nil ?_
      refine e_next_ (side_two (by kernel_rfl) (Imm.le_refl _) (by intro x hx; cases hx)) ?_
      refine e_done ?_
      refine post_next ?_
      refine code_seq ?_
      refine code_region ?_
      refine op_v (v_fieldB 1 Tryz.underlying48 rfl rfl fz46 rfl) rfl ?_
      refine op_v (v_loadA ty46 rfl rfl) rfl ?_
      refine op_v (v_len Tryz.underlying46 rfl) rfl ?_
      refine op_v (v_move rfl) rfl ?_
      refine ops_nil ?_
      refine post_next ?_
      refine code_block ?_
      refine code_loop (fun m' σ' I' δ' => ∃ (k : Nat) (xs' : Mp), m' = t.args.length - k ∧ k ≤ t.args.length ∧ σ' = [(0, .pointer (some ⟨b, 0, none⟩)), (1, .slice ad gs.length c), (3, .int .i64 s), (46, .slice a0 t.args.length c0), (47, .int .i64 t.args.length), (48, .int .i64 k)] ∧ I.le I' ∧ δ' = .box b6 48 [.int .i64 t.head, .slice a0 t.args.length c0] :: LoadE b m (w + s * (wB gs t.head + sumV gs (visL (t.args.take k)))) xs' ∧ VM xs' (fun j => D j + s * cvV (visL (t.args.take k)) j)) t.args.length [(0, .pointer (some ⟨b, 0, none⟩)), (1, .slice ad gs.length c), (3, .int .i64 s), (46, .slice a0 t.args.length c0), (47, .int .i64 t.args.length), (48, .int .i64 (0 : Nat))] ⟨0, xs, rfl, Nat.zero_le _, rfl, Imm.le_refl _, (by simp only [LoadE, List.take_zero, visL, hwq, sumV, List.map_nil, List.sum_nil, Int.add_zero, ← hq]; rfl), hD.congr (fun j => by simp [visL, cvV, cnV])⟩ ⟨rfl, rfl, rfl, rfl, rfl, rfl, trivial⟩ ?_
      rintro m' _ I1 _ ⟨k, xs', rfl, hk, rfl, hI1, rfl, hV⟩
      have hpk := hpart k hk
      refine code_seq ?_
      refine code_region ?_
      refine op_v (v_cmp rfl rfl rfl) rfl ?_
      refine ops_nil ?_
      refine post_next ?_
      refine code_seq ?_
      refine code_cond rfl (fun hc1 => ?_) (fun hc1 => ?_)
      · have hlt2 : k < t.args.length := by simpa using hc1
        have hs2 := (hatT k hlt2).isSome
        have hm := sizeL_mem t.args k hlt2
        have hch := (hO.child k hlt2).1
        have hb1 := tm_bound hs (show 0 ≤ wB gs t.head + sumV gs (visL (t.args.take k)) by omega) (show _ ≤ 401000 by omega)
        refine code_skip ?_
        refine post_next ?_
        refine code_seq ?_
        refine code_block ?_
        refine code_seq ?_
        refine code_region ?_
        refine op_v (v_indexA Tryz.underlying46 sz48 rfl rfl) rfl ?_
        refine op_v (v_loadI0 ty48 ((hatT k hlt2).mono hI1) rfl rfl rfl) rfl ?_
        refine o_alloc z48 rfl rfl (fun b9 => ?_)
        refine o_store ty48 rfl rfl rfl rfl rfl (by repeat (first | exact Swap.here | apply Swap.there)) rfl ?_
        refine ops_nil ?_
        refine post_next ?_
        refine code_region ?_
        refine op_v (v_move rfl) rfl ?_
        refine op_v (v_move rfl) rfl ?_
        refine op_v (v_loadA ty48 rfl rfl) rfl ?_
        refine op_v (v_move rfl) rfl ?_
        refine op_call pl169 rfl rfl ((ih t.args[k] (by omega) _ _ _ _ _ (hg.mono hI1) ((hsub k hlt2).mono hI1) hch hV ⟨by omega, by omega⟩ (fun j => by have h8 := hDb j; have h9 := cvV_range (visL (t.args.take k)) j; have h10 := visL_length (t.args.take k); have h11 : sizeL (t.args.take k) ≤ sizeL t.args := by { have h3 := congrArg List.length (visL_app (t.args.take k) (t.args.drop k)); rw [List.take_append_drop, List.length_append, visL_length, visL_length, visL_length] at h3; omega }; have h12 := tm_bound hs h9.1 (show _ ≤ 400 by omega); constructor <;> omega))) (List.perm_append_comm (l₁ := [_, _])) ?_
        rintro v56 I56 _ hI56 ⟨xs2, rfl, hV2⟩
        refine OpsJ.view (View.perm (List.perm_append_comm (l₂ := [_, _]))) ?_
        refine ops_nil ?_
        refine post_out ?_
        refine post_next ?_
        refine code_region ?_
        refine op_v (v_addb rfl rfl rfl (by omega)) rfl ?_
        refine op_v (v_move rfl) rfl ?_
        refine ops_nil ?_
        refine PostJ.view (View.drop Del.here) ?_
        refine post_again (t.args.length - (k + 1)) [(0, .pointer (some ⟨b, 0, none⟩)), (1, .slice ad gs.length c), (3, .int .i64 s), (46, .slice a0 t.args.length c0), (47, .int .i64 t.args.length), (48, .int .i64 (k + 1 : Nat))] (by omega) ⟨k + 1, xs2, rfl, hlt2, rfl, Imm.leA, ?_, hV2.congr (fun j => ?_)⟩ ⟨rfl, rfl, rfl, rfl, rfl, rfl, trivial⟩
        · have e : w + s * (wB gs t.head + sumV gs (visL (t.args.take k))) + s * wgtG gs t.args[k] = w + s * (wB gs t.head + sumV gs (visL (t.args.take (k + 1)))) := by rw [visL_take t.args k hlt2, sumV_app, sumV_T, Int.add_assoc, ← Int.mul_add, Int.add_assoc]
          simp only [LoadE, ← e]; rfl
        · rw [visL_take t.args k hlt2, cvV_app, cvV_T, Int.mul_add]; omega
      · have hge : k = t.args.length := by simp at hc1; omega
        refine code_exit ?_
        refine post_exit_then ?_
        refine post_exit_then ?_
        refine post_exit ?_
        refine post_end (rs := []) rfl (List.Perm.refl _) .nil (List.sublist_cons_self _ _) ⟨xs', ?_, hV.congr (fun j => ?_)⟩
        · rw [hge, List.take_length, ← wgtG_eq]
        · rw [hge, List.take_length]
          have e1 : cv t j = cvV (visL t.args) j := by rw [← cvV_T true t, visT_eq]; unfold cvV cnV; split; (rw [List.map_cons, List.count_cons]; have e2 : (t.head == j) = false := by { simp; omega }; simp only [e2]; simp); rfl
          rw [e1]
end Go.Proofs.YtdbadicpbmndbaaGreat
/- Walks: how two terms stand to one another. -/
set_option linter.unusedVariables false
set_option linter.unusedSimpArgs false
/- short -/
namespace Go.Proofs.YtdbadicpbmndbaaGreat
open Go Lg

theorem signs_does {I : Imm} {b m : Nat} {w : Int} {xs : Mp} {D : Int → Int} (hV : VM xs D) :
    Does Tryz.prog 173 [.pointer (some ⟨b, 0, none⟩)] I (LoadE b m w xs) (fun v _ δ' => (∃ mo le : Bool, v = .tuple #[.bool mo, .bool le] ∧ (mo = true ↔ ∃ k, 0 < D k) ∧ (le = true ↔ ∃ k, D k < 0)) ∧ δ' = LoadE b m w xs) := by
  have hent : ∀ p ∈ xs, p.2 = .int .i64 (D p.1) := fun p hp => hV.entry hp
  have hmo : (∃ p ∈ xs, 0 < D p.1) ↔ ∃ k, 0 < D k := ⟨fun ⟨p, _, h⟩ => ⟨p.1, h⟩, fun ⟨k, h⟩ => let ⟨p, hp, h1, _⟩ := hV.some (k := k) (by omega); ⟨p, hp, by rw [h1]; exact h⟩⟩
  have hle : (∃ p ∈ xs, D p.1 < 0) ↔ ∃ k, D k < 0 := ⟨fun ⟨p, _, h⟩ => ⟨p.1, h⟩, fun ⟨k, h⟩ => let ⟨p, hp, h1, _⟩ := hV.some (k := k) (by omega); ⟨p, hp, by rw [h1]; exact h⟩⟩
  refine Does.intro Tryz.func173 rfl Tryz.ntmps173 rfl fun w0 => ?_
  refine code_seq ?_
  refine code_region ?_
  refine op_v (v_assign rfl) rfl ?_
  refine op_v (v_assign rfl) rfl ?_
  refine ops_nil ?_
  refine post_next ?_
  refine code_seq ?_
  refine code_region ?_
  refine op_v (v_assign rfl) rfl ?_
  refine op_v (v_assign rfl) rfl ?_
  refine ops_nil ?_
  refine post_next ?_
  refine code_seq ?_
  refine code_seq ?_
  refine code_region ?_
  refine op_v (v_move rfl) rfl ?_
  refine op_v (v_nilCheck rfl) rfl ?_
  refine op_v (v_fieldB 1 Tryz.underlying169 rfl rfl fz102 rfl) rfl ?_
  refine op_v (v_loadA ty102 rfl rfl) rfl ?_
  refine OpsJ.openMap (δ' := fun es ck => [.box b 169 [.int .i64 w, .map (some m)], .obj m (.map es ck)]) (fun _ _ => Swap.there Swap.here) ?_
  intro es ck hmi
  refine o_range Tryz.underlying102 rfl (Has.there Has.here) hmi rfl (fun r12 hL0 => ?_)
  refine ops_nil ?_
  refine post_next ?_
  refine code_block ?_
  refine code_loop (fun m' σ' I' δ' => ∃ (mo le : Bool) (left : Mp) (seen : Array Nat), m' = left.length ∧ σ' = [(12, .pointer (some ⟨r12, 0, none⟩)), (4, .bool mo), (5, .bool le)] ∧ I' = I ∧ δ' = [.obj r12 (.mapIter (some m) ck seen ck), .box b 169 [.int .i64 w, .map (some m)], .obj m (.map es ck)] ∧ LeftM es ck ck seen ck xs left ∧ (∀ p ∈ left, p ∈ xs) ∧ ((mo = true ∨ ∃ p ∈ left, 0 < D p.1) ↔ ∃ p ∈ xs, 0 < D p.1) ∧ ((le = true ∨ ∃ p ∈ left, D p.1 < 0) ↔ ∃ p ∈ xs, D p.1 < 0)) xs.length [(12, .pointer (some ⟨r12, 0, none⟩)), (4, .bool false), (5, .bool false)] ⟨false, false, xs, _, rfl, rfl, rfl, rfl, hL0, fun _ h => h, by simp, by simp⟩ ⟨rfl, rfl, rfl, trivial⟩ ?_
  rintro m' _ _ _ ⟨mo, le, left, seen, rfl, rfl, rfl, rfl, hL, hin, hm1, hl1⟩
  refine code_seq ?_
  refine code_region ?_
  by_cases hls : left = []
  · refine o_mnext0 hls hL rfl (Has.there (Has.there Has.here)) (fun _ => Swap.here) rfl ?_
    refine op_v (v_extract rfl rfl) rfl ?_
    refine ops_nil ?_
    refine post_next ?_
    refine code_seq ?_
    refine code_cond_f rfl ?_
    refine code_exit ?_
    refine post_exit_then ?_
    refine post_exit_then ?_
    refine post_exit ?_
    refine post_next ?_
    refine code_seq ?_
    refine code_region ?_
    subst hls
    refine OpsJ.view ((View.drop Del.here).trans (View.closeMap hmi (Swap.there Swap.here))) ?_
    refine op_v (v_move rfl) rfl ?_
    refine op_v (v_move rfl) rfl ?_
    refine op_v (v_assign rfl) rfl ?_
    refine op_v (v_assign rfl) rfl ?_
    refine ops_nil ?_
    refine post_next ?_
    refine code_ret ?_
    refine post_ret (rs := [.tmp 2, .tmp 3]) rfl (List.Perm.refl _) (.cons (.tmp rfl) (.cons (.tmp rfl) .nil)) (List.Sublist.refl _) ?_
    exact ⟨⟨mo, le, rfl, by rw [← hmo, ← hm1]; simp, by rw [← hle, ← hl1]; simp⟩, rfl⟩
  · refine o_mnext1 hls hL rfl (Has.there (Has.there Has.here)) (fun _ => Swap.here) rfl (fun l k u q seen' hl hL' hcur => ?_)
    subst hl
    have hu := hent (k, u) (hin _ (by simp))
    simp only at hu
    subst hu
    have hin' : ∀ p ∈ l ++ q, p ∈ xs := fun p hp => hin p (by rcases List.mem_append.1 hp with h | h; exact List.mem_append_left _ h; exact List.mem_append_right _ (List.mem_cons_of_mem _ h))
    have hmeas : (l ++ q).length < (l ++ (k, Value.int .i64 (D k)) :: q).length := by simp
    have hm2 : ((mo || decide (0 < D k)) = true ∨ ∃ p ∈ l ++ q, 0 < D p.1) ↔ ∃ p ∈ xs, 0 < D p.1 := by
      rw [← hm1]
      simp only [List.mem_append, List.mem_cons, Bool.or_eq_true, decide_eq_true_eq]
      constructor
      · rintro ((h | h) | ⟨p, h | h, h2⟩)
        · exact .inl h
        · exact .inr ⟨_, .inr (.inl rfl), h⟩
        · exact .inr ⟨p, .inl h, h2⟩
        · exact .inr ⟨p, .inr (.inr h), h2⟩
      · rintro (h | ⟨p, h | rfl | h, h2⟩)
        · exact .inl (.inl h)
        · exact .inr ⟨p, .inl h, h2⟩
        · exact .inl (.inr h2)
        · exact .inr ⟨p, .inr h, h2⟩
    have hl2 : ((le || decide (D k < 0)) = true ∨ ∃ p ∈ l ++ q, D p.1 < 0) ↔ ∃ p ∈ xs, D p.1 < 0 := by
      rw [← hl1]
      simp only [List.mem_append, List.mem_cons, Bool.or_eq_true, decide_eq_true_eq]
      constructor
      · rintro ((h | h) | ⟨p, h | h, h2⟩)
        · exact .inl h
        · exact .inr ⟨_, .inr (.inl rfl), h⟩
        · exact .inr ⟨p, .inl h, h2⟩
        · exact .inr ⟨p, .inr (.inr h), h2⟩
      · rintro (h | ⟨p, h | rfl | h, h2⟩)
        · exact .inl (.inl h)
        · exact .inr ⟨p, .inl h, h2⟩
        · exact .inl (.inr h2)
        · exact .inr ⟨p, .inr h, h2⟩
    refine op_v (v_extract rfl rfl) rfl ?_
    refine ops_nil ?_
    refine post_next ?_
    refine code_seq ?_
    refine code_cond_t rfl ?_
    refine code_skip ?_
    refine post_next ?_
    refine code_block ?_
    refine code_seq ?_
    refine code_region ?_
    refine op_v (v_entry hL' rfl hcur (Has.there (Has.there Has.here)) Has.here) rfl ?_
    refine op_v (v_extract rfl rfl) rfl ?_
    refine op_v (v_assign rfl) rfl ?_
    refine ops_nil ?_
    refine post_next ?_
    refine code_region ?_
    refine op_v (v_move rfl) rfl ?_
    by_cases hmo1 : mo = true
    · subst hmo1
      refine op_v (v_move rfl) rfl ?_
      refine op_skip rfl rfl (by simp [undef]) rfl ?_
      refine op_skip rfl rfl (by simp [undef]) rfl ?_
      refine op_v (v_pickt rfl rfl) rfl ?_
      refine op_v (v_move rfl) rfl ?_
      by_cases hle1 : le = true
      · subst hle1
        refine op_v (v_move rfl) rfl ?_
        refine op_skip rfl rfl (by simp [undef]) rfl ?_
        refine op_skip rfl rfl (by simp [undef]) rfl ?_
        refine op_v (v_pickt rfl rfl) rfl ?_
        refine op_v (v_assign rfl) rfl ?_
        refine op_v (v_assign rfl) rfl ?_
        refine ops_nil ?_
        refine post_out ?_
        refine post_again _ [(12, .pointer (some ⟨r12, 0, none⟩)), (4, .bool true), (5, .bool true)] hmeas ⟨_, _, l ++ q, seen', rfl, rfl, rfl, rfl, hL', hin', by simpa using hm2, by simpa using hl2⟩ ⟨rfl, rfl, rfl, trivial⟩
      · have hle2 : le = false := by simpa using hle1
        subst hle2
        refine op_v (v_move rfl) rfl ?_
        refine op_want rfl rfl ?_
        refine op_v (v_move rfl) rfl ?_
        refine op_want rfl rfl ?_
        refine op_v (v_cmp (z := decide (D k < 0)) rfl rfl rfl) rfl ?_
        refine op_v (v_pickf rfl rfl) rfl ?_
        refine op_v (v_assign rfl) rfl ?_
        refine op_v (v_assign rfl) rfl ?_
        refine ops_nil ?_
        refine post_out ?_
        refine post_again _ [(12, .pointer (some ⟨r12, 0, none⟩)), (4, .bool true), (5, .bool (decide (D k < 0)))] hmeas ⟨_, _, l ++ q, seen', rfl, rfl, rfl, rfl, hL', hin', by simpa using hm2, by simpa using hl2⟩ ⟨rfl, rfl, rfl, trivial⟩
    · have hmo2 : mo = false := by simpa using hmo1
      subst hmo2
      refine op_v (v_move rfl) rfl ?_
      refine op_want rfl rfl ?_
      refine op_v (v_move rfl) rfl ?_
      refine op_want rfl rfl ?_
      refine op_v (v_cmp (z := decide (0 < D k)) rfl rfl rfl) rfl ?_
      refine op_v (v_pickf rfl rfl) rfl ?_
      refine op_v (v_move rfl) rfl ?_
      skip
      refine op_v (v_move rfl) rfl ?_
      by_cases hle3 : le = true
      · subst hle3
        refine op_skip rfl rfl (by simp [undef]) rfl ?_
        refine op_skip rfl rfl (by simp [undef]) rfl ?_
        refine op_v (v_pickt rfl rfl) rfl ?_
        refine op_v (v_assign rfl) rfl ?_
        refine op_v (v_assign rfl) rfl ?_
        refine ops_nil ?_
        refine post_out ?_
        refine post_again _ [(12, .pointer (some ⟨r12, 0, none⟩)), (4, .bool (decide (0 < D k))), (5, .bool true)] hmeas ⟨_, _, l ++ q, seen', rfl, rfl, rfl, rfl, hL', hin', by simpa using hm2, by simpa using hl2⟩ ⟨rfl, rfl, rfl, trivial⟩
      · have hle2 : le = false := by simpa using hle3
        subst hle2
        refine op_want rfl rfl ?_
        refine op_v (v_move rfl) rfl ?_
        refine op_want rfl rfl ?_
        refine op_v (v_cmp (z := decide (D k < 0)) rfl rfl rfl) rfl ?_
        refine op_v (v_pickf rfl rfl) rfl ?_
        refine op_v (v_assign rfl) rfl ?_
        refine op_v (v_assign rfl) rfl ?_
        refine ops_nil ?_
        refine post_out ?_
        refine post_again _ [(12, .pointer (some ⟨r12, 0, none⟩)), (4, .bool (decide (0 < D k))), (5, .bool (decide (D k < 0)))] hmeas ⟨_, _, l ++ q, seen', rfl, rfl, rfl, rfl, hL', hin', by simpa using hm2, by simpa using hl2⟩ ⟨rfl, rfl, rfl, trivial⟩
def DM (a b : T) (k : Int) : Int := if k < 0 then (cn a k : Int) - (cn b k : Int) else 0
theorem DM_pos (a b : T) : (∃ k, 0 < DM a b k) ↔ vleB b a = false := by
  rw [← Bool.not_eq_true, vleB_iff]
  unfold DM
  constructor
  · rintro ⟨k, h⟩ hv
    by_cases hk : k < 0
    · rw [if_pos hk] at h; have := hv k hk; omega
    · rw [if_neg hk] at h; omega
  · intro h
    rcases Classical.em (∃ k, 0 < DM a b k) with h1 | h1
    · exact h1
    · exfalso
      apply h
      intro k hk
      have : ¬ 0 < DM a b k := fun h2 => h1 ⟨k, h2⟩
      unfold DM at this
      rw [if_pos hk] at this; omega
theorem DM_neg (a b : T) : (∃ k, DM a b k < 0) ↔ vleB a b = false := by
  rw [← DM_pos b a]
  unfold DM
  constructor <;> (rintro ⟨k, h⟩; refine ⟨k, ?_⟩; split at h <;> rename_i hk <;> first | rw [if_pos hk]; omega | omega)
theorem side_does {I : Imm} {b m : Nat} {w n : Int} {xs : Mp} {s t : T} (hV : VM xs (DM s t)) :
    Does Tryz.prog 170 [.pointer (some ⟨b, 0, none⟩), .int .i64 n] I (LoadE b m w xs) (fun v _ δ' => v = .int .i64 (sideG s t n) ∧ δ' = LoadE b m w xs) := by
  refine Does.intro Tryz.func170 rfl Tryz.ntmps170 rfl fun w0 => ?_
  refine code_seq ?_
  refine code_region ?_
  refine op_v (v_assign rfl) rfl ?_
  refine ops_nil ?_
  refine post_next ?_
  refine code_seq ?_
  refine code_region ?_
  refine op_v (v_move rfl) rfl ?_
  refine op_call pl173 rfl rfl ((signs_does hV)) Parts.all ?_
  rintro v9 I9 _ hI9 ⟨⟨mo, le, rfl, hmo, hle⟩, rfl⟩
  rw [List.append_nil]
  rw [DM_pos] at hmo
  rw [DM_neg] at hle
  refine op_v (v_move rfl) rfl ?_
  refine op_v (v_extract rfl rfl) rfl ?_
  refine op_v (v_extract rfl rfl) rfl ?_
  refine op_v (v_assign rfl) rfl ?_
  refine op_v (v_assign rfl) rfl ?_
  refine ops_nil ?_
  refine post_next ?_
  refine code_seq ?_
  refine code_block ?_
  refine code_seq ?_
  refine code_region ?_
  refine op_v (v_move rfl) rfl ?_
  by_cases h14 : 0 < n
  · refine op_v (v_cmptA rfl rfl rfl) rfl ?_
    refine op_v (v_move rfl) rfl ?_
    refine op_want rfl rfl ?_
    refine op_v (v_move rfl) rfl ?_
    by_cases h17 : le = true
    · subst h17
      refine op_want rfl rfl ?_
      refine op_v (v_not rfl) rfl ?_
      refine op_v (v_pickt rfl rfl) rfl ?_
      refine op_v (v_assign rfl) rfl ?_
      refine ops_nil ?_
      refine post_next ?_
      refine code_cond_f rfl ?_
      refine code_seq ?_
      refine code_region ?_
      refine op_v (v_move rfl) rfl ?_
      refine op_v (v_cmpfA rfl rfl rfl) rfl ?_
      refine op_v (v_move rfl) rfl ?_
      refine op_skip rfl rfl (by simp [undef]) rfl ?_
      refine op_skip rfl rfl (by simp [undef]) rfl ?_
      refine op_v (v_pickf rfl rfl) rfl ?_
      refine op_v (v_assign rfl) rfl ?_
      refine ops_nil ?_
      refine post_next ?_
      refine code_cond_f rfl ?_
      refine code_skip ?_
      refine post_out ?_
      refine post_next ?_
      refine code_seq ?_
      refine code_region ?_
      refine op_v (v_assign rfl) rfl ?_
      refine ops_nil ?_
      refine post_next ?_
      refine code_ret ?_
      refine post_ret (rs := [.tmp 4]) rfl (List.Perm.refl _) (.cons (.tmp rfl) .nil) (List.Sublist.refl _) ?_
      have hv : vleB s t = false := hle.1 rfl
      exact ⟨by simp [outV, sideG, hv]; omega, rfl⟩
    · have h17' : le = false := by simpa using h17
      subst h17'
      refine op_want rfl rfl ?_
      refine op_v (v_not rfl) rfl ?_
      refine op_v (v_pickt rfl rfl) rfl ?_
      refine op_v (v_assign rfl) rfl ?_
      refine ops_nil ?_
      refine post_next ?_
      refine code_cond_t rfl ?_
      refine code_seq ?_
      refine code_region ?_
      refine op_v (v_assign rfl) rfl ?_
      refine ops_nil ?_
      refine post_next ?_
      refine code_ret ?_
      refine post_ret_block ?_
      refine post_ret_then ?_
      refine post_ret (rs := [.tmp 4]) rfl (List.Perm.refl _) (.cons (.tmp rfl) .nil) (List.Sublist.refl _) ?_
      have hv : vleB s t = true := by { cases h : vleB s t; exact absurd (hle.2 h) (by simp); rfl }
      exact ⟨by simp [outV, sideG, h14, hv], rfl⟩
  · refine op_v (v_cmpfA rfl rfl rfl) rfl ?_
    refine op_v (v_move rfl) rfl ?_
    refine op_skip rfl rfl (by simp [undef]) rfl ?_
    refine op_skip rfl rfl (by simp [undef]) rfl ?_
    refine op_v (v_pickf rfl rfl) rfl ?_
    refine op_v (v_assign rfl) rfl ?_
    refine ops_nil ?_
    refine post_next ?_
    refine code_cond_f rfl ?_
    refine code_seq ?_
    refine code_region ?_
    refine op_v (v_move rfl) rfl ?_
    by_cases h21 : n < 0
    · refine op_v (v_cmptA rfl rfl rfl) rfl ?_
      refine op_v (v_move rfl) rfl ?_
      refine op_want rfl rfl ?_
      refine op_v (v_move rfl) rfl ?_
      by_cases h24 : mo = true
      · subst h24
        refine op_want rfl rfl ?_
        refine op_v (v_not rfl) rfl ?_
        refine op_v (v_pickt rfl rfl) rfl ?_
        refine op_v (v_assign rfl) rfl ?_
        refine ops_nil ?_
        refine post_next ?_
        refine code_cond_f rfl ?_
        refine code_skip ?_
        refine post_out ?_
        refine post_next ?_
        refine code_seq ?_
        refine code_region ?_
        refine op_v (v_assign rfl) rfl ?_
        refine ops_nil ?_
        refine post_next ?_
        refine code_ret ?_
        refine post_ret (rs := [.tmp 4]) rfl (List.Perm.refl _) (.cons (.tmp rfl) .nil) (List.Sublist.refl _) ?_
        have hv : vleB t s = false := hmo.1 rfl
        exact ⟨by simp [outV, sideG, hv, h14], rfl⟩
      · have h24' : mo = false := by simpa using h24
        subst h24'
        refine op_want rfl rfl ?_
        refine op_v (v_not rfl) rfl ?_
        refine op_v (v_pickt rfl rfl) rfl ?_
        refine op_v (v_assign rfl) rfl ?_
        refine ops_nil ?_
        refine post_next ?_
        refine code_cond_t rfl ?_
        refine code_seq ?_
        refine code_region ?_
        refine op_v (v_assign rfl) rfl ?_
        refine ops_nil ?_
        refine post_next ?_
        refine code_ret ?_
        refine post_ret_block ?_
        refine post_ret_then ?_
        refine post_ret (rs := [.tmp 4]) rfl (List.Perm.refl _) (.cons (.tmp rfl) .nil) (List.Sublist.refl _) ?_
        have hv : vleB t s = true := by { cases h : vleB t s; exact absurd (hmo.2 h) (by simp); rfl }
        exact ⟨by simp [outV, sideG, hv, h14, h21], rfl⟩
    · refine op_v (v_cmpfA rfl rfl rfl) rfl ?_
      refine op_v (v_move rfl) rfl ?_
      refine op_skip rfl rfl (by simp [undef]) rfl ?_
      refine op_skip rfl rfl (by simp [undef]) rfl ?_
      refine op_v (v_pickf rfl rfl) rfl ?_
      refine op_v (v_assign rfl) rfl ?_
      refine ops_nil ?_
      refine post_next ?_
      refine code_cond_f rfl ?_
      refine code_skip ?_
      refine post_out ?_
      refine post_next ?_
      refine code_seq ?_
      refine code_region ?_
      refine op_v (v_assign rfl) rfl ?_
      refine ops_nil ?_
      refine post_next ?_
      refine code_ret ?_
      refine post_ret (rs := [.tmp 4]) rfl (List.Perm.refl _) (.cons (.tmp rfl) .nil) (List.Sublist.refl _) ?_
      exact ⟨by simp [outV, sideG, h14, h21], rfl⟩
theorem wrong_does {I : Imm} {vg v : Value} {gs : List Sy} {ts : List T} (hg : RepG I vg gs) (hv : RepS I v ts) (hbig : ∀ t ∈ ts, t.size ≤ 1000000000) :
    Does Tryz.prog 124 [vg, v] I [] (fun v _ δ' => v = .int .i64 (wrongG gs ts) ∧ δ' = []) := by
  obtain ⟨ad, c, ss, ts, hc, hb, hat, hr, hsub0⟩ := hv
  have hsub : ∀ i (h : i < ts.length), RepT I (.agg #[.int .i64 ts[i].head, .slice (ss i).1 ts[i].args.length (ss i).2]) ts[i] := fun i hi => RepT.mk _ _ (hr i hi) (hsub0 i hi)
  refine Does.intro Tryz.func124 rfl Tryz.ntmps124 rfl fun w0 => ?_
  refine code_seq ?_
  refine code_region ?_
  refine op_v (v_assign rfl) rfl ?_
  refine ops_nil ?_
  refine post_next ?_
  refine code_seq ?_
  refine code_seq ?_
  refine code_region ?_
  refine op_v (v_move rfl) rfl ?_
  refine op_v (v_len Tryz.underlying46 rfl) rfl ?_
  refine op_v (v_move rfl) rfl ?_
  refine ops_nil ?_
  refine post_next ?_
  refine code_block ?_
  refine code_loop (fun m σ' I' δ' => ∃ k : Nat, m = ts.length - k ∧ k ≤ ts.length ∧ σ' = [(0, vg), (8, .slice ad ts.length c), (9, .int .i64 ts.length), (10, .int .i64 k)] ∧ I.le I' ∧ δ' = [] ∧ ∀ t ∈ ts.take k, termG gs t = 0) ts.length [(0, vg), (8, .slice ad ts.length c), (9, .int .i64 ts.length), (10, .int .i64 (0 : Nat))] ⟨0, rfl, Nat.zero_le _, rfl, Imm.le_refl _, rfl, by simp⟩ ⟨rfl, rfl, rfl, rfl, trivial⟩ ?_
  rintro m _ I0 _ ⟨k, rfl, hk, rfl, hI0, rfl, hp⟩
  refine code_seq ?_
  refine code_region ?_
  refine op_v (v_cmp rfl rfl rfl) rfl ?_
  refine ops_nil ?_
  refine post_next ?_
  refine code_seq ?_
  refine code_cond rfl (fun hc0 => ?_) (fun hc0 => ?_)
  · have hlt : k < ts.length := by simpa using hc0
    have hs1 := (hat k hlt).isSome
    refine code_skip ?_
    refine post_next ?_
    refine code_seq ?_
    refine code_block ?_
    refine code_seq ?_
    refine code_region ?_
    refine op_v (v_indexA Tryz.underlying46 sz48 rfl rfl) rfl ?_
    refine op_v (v_loadI0 ty48 ((hat k hlt).mono hI0) rfl rfl rfl) rfl ?_
    refine o_alloc z48 rfl rfl (fun b6 => ?_)
    refine o_store ty48 rfl rfl rfl rfl rfl (by repeat (first | exact Swap.here | apply Swap.there)) rfl ?_
    refine ops_nil ?_
    refine post_next ?_
    refine code_seq ?_
    refine code_region ?_
    refine op_v (v_move rfl) rfl ?_
    refine op_v (v_loadA ty48 rfl rfl) rfl ?_
    refine op_call pl137 rfl rfl ((GTerm_does (hg.mono hI0) ((hsub k hlt).mono hI0) (hbig _ (List.getElem_mem _)))) Parts.none ?_
    rintro v16 I16 _ hI16 ⟨rfl, rfl⟩
    refine op_v (v_assign rfl) rfl ?_
    refine ops_nil ?_
    refine post_next ?_
    refine code_seq ?_
    refine code_region ?_
    refine op_v (v_move rfl) rfl ?_
    by_cases h18 : termG gs ts[k] ≠ 0
    · refine op_v (v_cmptA rfl rfl rfl) rfl ?_
      refine ops_nil ?_
      refine post_next ?_
      refine code_cond_t rfl ?_
      refine code_seq ?_
      refine code_region ?_
      refine op_v (v_move rfl) rfl ?_
      refine op_v (v_assign rfl) rfl ?_
      refine ops_nil ?_
      refine post_next ?_
      refine code_ret ?_
      refine post_ret_block ?_
      refine post_ret_then ?_
      refine post_ret_then ?_
      refine post_ret_block ?_
      refine post_ret_then ?_
      refine post_ret (rs := [.tmp 4]) rfl (List.Perm.refl _) (.cons (.tmp rfl) .nil) (List.nil_sublist _) ?_
      exact ⟨by rw [wrongG_take hlt hp h18]; rfl, rfl⟩
    · refine op_v (v_cmpfA rfl rfl rfl) rfl ?_
      refine ops_nil ?_
      refine post_next ?_
      refine code_cond_f rfl ?_
      refine code_skip ?_
      refine post_out ?_
      refine post_next ?_
      refine code_region ?_
      refine op_v (v_addb rfl rfl rfl (by omega)) rfl ?_
      refine op_v (v_move rfl) rfl ?_
      refine ops_nil ?_
      refine PostJ.view View.nil ?_
      refine post_again (ts.length - (k + 1)) [(0, vg), (8, .slice ad ts.length c), (9, .int .i64 ts.length), (10, .int .i64 (k + 1 : Nat))] (by omega) ⟨k + 1, rfl, hlt, rfl, Imm.leA, rfl, fun t ht => ?_⟩ ⟨rfl, rfl, rfl, rfl, trivial⟩
      rw [List.take_succ_eq_append_getElem hlt, List.mem_append, List.mem_singleton] at ht
      rcases ht with ht | rfl
      · exact hp t ht
      · omega
  · have hge : k = ts.length := by simp at hc0; omega
    rw [hge, List.take_length] at hp
    refine code_exit ?_
    refine post_exit_then ?_
    refine post_exit_then ?_
    refine post_exit ?_
    refine post_next ?_
    refine code_seq ?_
    refine code_region ?_
    refine op_v (v_assign rfl) rfl ?_
    refine ops_nil ?_
    refine post_next ?_
    refine code_ret ?_
    refine post_ret (rs := [.tmp 4]) rfl (List.Perm.refl _) (.cons (.tmp rfl) .nil) (List.nil_sublist _) ?_
    exact ⟨by rw [wrongG_all hp]; rfl, rfl⟩
end Go.Proofs.YtdbadicpbmndbaaGreat
/- Walks: how two terms stand to one another. -/
set_option linter.unusedVariables false
set_option linter.unusedSimpArgs false
/- short -/
namespace Go.Proofs.YtdbadicpbmndbaaGreat
open Go Lg

theorem stL_drop (gs : List Sy) : ∀ (l m : List T) (k : Nat) (h : k < l.length) (h' : k < m.length), stL gs (l.drop k) (m.drop k) = if stT gs l[k] m[k] ≠ 0 then stT gs l[k] m[k] else stL gs (l.drop (k + 1)) (m.drop (k + 1)) := by
  intro l m k h h'
  rw [List.drop_eq_getElem_cons h, List.drop_eq_getElem_cons h', stL]
theorem stand_does {gs : List Sy} : ∀ (n : Nat) (a b : T), a.size ≤ n → ∀ (I : Imm) (vg va vb : Value), RepG I vg gs → RepT I va a → RepT I vb b → OkG gs a → OkG gs b →
    Does Tryz.prog 155 [vg, va, vb] I [] (fun v _ δ' => v = .int .i64 (stT gs a b) ∧ δ' = []) := by
  intro n
  induction n with
  | zero => intro a b h; have := a.size_pos; omega
  | succ n ih =>
    intro a b hn I vg va vb hg hva hvb hA hB
    obtain ⟨ad, c, rfl⟩ := hg.shape
    obtain ⟨a0, c0, rfl, ha0⟩ := hva.shape
    obtain ⟨b0, e0, rfl, hb0⟩ := hvb.shape
    obtain ⟨_, _, _, hca, hba, ssa, hata, hsuba⟩ := hva.open
    obtain ⟨_, _, _, hcb, hbb, ssb, hatb, hsubb⟩ := hvb.open
    have hsa := chkT_size hA.chk
    have hsb := chkT_size hB.chk
    have hwa := wgtG_range hA
    have hwb := wgtG_range hB
    have hsz := size_eqT a
    have hha := hA.heads (true, a) (by rw [visT_eq]; exact List.mem_cons_self ..)
    have hhb := hB.heads (true, b) (by rw [visT_eq]; exact List.mem_cons_self ..)
    simp only at hha hhb
    have hgl := (rightG_len hA.right).2
    have hva2 := (chk_vis hA.chk (true, a) (by rw [visT_eq]; exact List.mem_cons_self ..)).2
    have hvb2 := (chk_vis hB.chk (true, b) (by rw [visT_eq]; exact List.mem_cons_self ..)).2
    simp only at hva2 hvb2
    have hcr : ∀ k, 0 ≤ cv a k ∧ cv a k ≤ 400 := fun k => by have h1 := cvV_range (visT true a) k; rw [cvV_T, visT_length] at h1; omega
    refine Does.intro Tryz.func155 rfl Tryz.ntmps155 rfl fun w0 => ?_
    refine code_seq ?_
    refine code_region ?_
    refine o_box rfl rfl rfl (fun b4 => ?_)
    refine o_box rfl rfl rfl (fun b5 => ?_)
    refine op_v (v_assign rfl) rfl ?_
    refine ops_nil ?_
    refine post_next ?_
    refine code_seq ?_
    refine code_seq ?_
    refine code_region ?_
    refine op_v (v_loadA ty48 rfl rfl) rfl ?_
    refine op_v (v_loadA ty48 rfl rfl) rfl ?_
    refine op_call pl123 rfl rfl ((TSame_does hva hvb (by omega) (by omega))) Parts.none ?_
    rintro v12 I12 _ hI12 ⟨rfl, rfl⟩
    refine ops_nil ?_
    refine post_next ?_
    refine code_cond rfl (fun hc0 => ?_) (fun hc0 => ?_)
    · have hab : a = b := by simpa using hc0
      refine code_seq ?_
      refine code_region ?_
      refine op_v (v_assign rfl) rfl ?_
      refine ops_nil ?_
      refine post_next ?_
      refine code_ret ?_
      refine post_ret_then ?_
      refine post_ret (rs := [.tmp 6]) rfl (List.Perm.refl _) (.cons (.tmp rfl) .nil) (List.nil_sublist _) ?_
      exact ⟨by rw [stT_eq, if_pos hab]; rfl, rfl⟩
    · have hab : ¬ a = b := by simpa using hc0
      refine code_skip ?_
      refine post_next ?_
      refine code_seq ?_
      refine code_region ?_
      refine o_makeMap rfl (fun b13 => ?_)
      refine op_v (v_build bl169 rfl rfl) rfl ?_
      refine o_box rfl rfl rfl (fun b15 => ?_)
      refine op_v (v_assign rfl) rfl ?_
      refine ops_nil ?_
      refine post_next ?_
      refine code_seq ?_
      refine code_region ?_
      refine op_v (v_move rfl) rfl ?_
      refine op_v (v_move rfl) rfl ?_
      refine op_v (v_loadA ty48 rfl rfl) rfl ?_
      refine op_call pl169 rfl rfl ((add_does (.inl rfl) a.size a (Nat.le_refl _) _ _ 0 [] (fun _ => 0) (hg.mono Imm.leA) (hva.mono Imm.leA) hA VM.nil ⟨by omega, by omega⟩ (fun k => ⟨by omega, by omega⟩))) (List.Perm.refl _) ?_
      rintro v19 I19 _ hI19 ⟨xs1, rfl, hV1⟩
      refine ops_nil ?_
      refine post_next ?_
      refine code_seq ?_
      refine code_region ?_
      refine op_v (v_move rfl) rfl ?_
      refine op_v (v_move rfl) rfl ?_
      refine op_v (v_loadA ty48 rfl rfl) rfl ?_
      refine op_call pl169 rfl rfl ((add_does (.inr rfl) b.size b (Nat.le_refl _) _ _ _ xs1 _ (hg.mono Imm.leA) (hvb.mono Imm.leA) hB hV1 ⟨by omega, by omega⟩ (fun k => by have := hcr k; constructor <;> omega))) (List.Perm.refl _) ?_
      rintro v23 I23 _ hI23 ⟨xs2, rfl, hV2⟩
      have hV : VM xs2 (DM a b) := hV2.congr (fun k => by unfold DM cv; split <;> omega)
      have hW : (0 : Int) + 1 * wgtG gs a + -1 * wgtG gs b = wgtG gs a - wgtG gs b := by omega
      rw [hW]
      refine ops_nil ?_
      refine post_next ?_
      refine code_seq ?_
      refine code_block ?_
      refine code_seq ?_
      refine code_region ?_
      refine op_v (v_move rfl) rfl ?_
      refine op_v (v_nilCheck rfl) rfl ?_
      refine op_v (v_fieldB 0 Tryz.underlying169 rfl rfl fz3 rfl) rfl ?_
      refine op_v (v_loadA ty3 rfl rfl) rfl ?_
      by_cases h56 : wgtG gs a - wgtG gs b ≠ 0
      · refine op_v (v_cmptA rfl rfl rfl) rfl ?_
        refine op_v (v_assign rfl) rfl ?_
        refine ops_nil ?_
        refine post_next ?_
        refine code_cond_t rfl ?_
        refine code_seq ?_
        refine code_region ?_
        refine op_v (v_move rfl) rfl ?_
        refine op_v (v_move rfl) rfl ?_
        refine op_v (v_nilCheck rfl) rfl ?_
        refine op_v (v_fieldB 0 Tryz.underlying169 rfl rfl fz3 rfl) rfl ?_
        refine op_v (v_loadA ty3 rfl rfl) rfl ?_
        refine op_call pl170 rfl rfl ((side_does hV)) (List.Perm.refl _) ?_
        rintro v62 I62 _ hI62 ⟨rfl, rfl⟩
        refine op_v (v_assign rfl) rfl ?_
        refine ops_nil ?_
        refine post_next ?_
        refine code_ret ?_
        refine post_ret_block ?_
        refine post_ret_then ?_
        refine post_ret (rs := [.tmp 6]) rfl (List.Perm.refl _) (.cons (.tmp rfl) .nil) (List.nil_sublist _) ?_
        exact ⟨by rw [stT_eq gs a b, if_neg hab, if_pos (show wgtG gs a ≠ wgtG gs b by omega)]; rfl, rfl⟩
      · refine op_v (v_cmpfA rfl rfl rfl) rfl ?_
        refine op_v (v_assign rfl) rfl ?_
        refine ops_nil ?_
        refine post_next ?_
        refine code_cond_f rfl ?_
        refine code_seq ?_
        refine code_region ?_
        refine op_v (v_fieldB 0 Tryz.underlying48 rfl rfl fz3 rfl) rfl ?_
        refine op_v (v_loadA ty3 rfl rfl) rfl ?_
        by_cases h66 : a.head < 0
        · refine op_v (v_cmptA rfl rfl rfl) rfl ?_
          refine op_v (v_move rfl) rfl ?_
          refine op_skip rfl rfl (by simp [undef]) rfl ?_
          refine op_skip rfl rfl (by simp [undef]) rfl ?_
          refine op_skip rfl rfl (by simp [undef]) rfl ?_
          refine op_v (v_pickt rfl rfl) rfl ?_
          refine op_v (v_assign rfl) rfl ?_
          refine ops_nil ?_
          refine post_next ?_
          refine code_cond_t rfl ?_
          refine code_seq ?_
          refine code_region ?_
          refine op_v (v_assign rfl) rfl ?_
          refine ops_nil ?_
          refine post_next ?_
          refine code_ret ?_
          refine post_ret_block ?_
          refine post_ret_then ?_
          refine post_ret (rs := [.tmp 6]) rfl (List.Perm.refl _) (.cons (.tmp rfl) .nil) (List.nil_sublist _) ?_
          exact ⟨by rw [stT_eq gs a b, if_neg hab, if_neg (show ¬ (wgtG gs a ≠ wgtG gs b) by omega), if_pos (show a.head < 0 ∨ b.head < 0 by omega)]; rfl, rfl⟩
        · refine op_v (v_cmpfA rfl rfl rfl) rfl ?_
          refine op_v (v_move rfl) rfl ?_
          first
            | (refine op_want rfl rfl ?_
               refine op_v (v_fieldB 0 Tryz.underlying48 rfl rfl fz3 rfl) rfl ?_)
            | (refine op_skip rfl rfl (by simp [undef]) rfl ?_)
          refine op_want rfl rfl ?_
          refine op_v (v_loadA ty3 rfl rfl) rfl ?_
          by_cases h70 : b.head < 0
          · first
              | (refine op_want rfl rfl ?_
                 refine op_v (v_cmptA rfl rfl rfl) rfl ?_)
              | (refine op_skip rfl rfl (by simp [undef]) rfl ?_)
            refine op_v (v_pickf rfl rfl) rfl ?_
            refine op_v (v_assign rfl) rfl ?_
            refine ops_nil ?_
            refine post_next ?_
            refine code_cond_t rfl ?_
            refine code_seq ?_
            refine code_region ?_
            refine op_v (v_assign rfl) rfl ?_
            refine ops_nil ?_
            refine post_next ?_
            refine code_ret ?_
            refine post_ret_block ?_
            refine post_ret_then ?_
            refine post_ret (rs := [.tmp 6]) rfl (List.Perm.refl _) (.cons (.tmp rfl) .nil) (List.nil_sublist _) ?_
            exact ⟨by rw [stT_eq gs a b, if_neg hab, if_neg (show ¬ (wgtG gs a ≠ wgtG gs b) by omega), if_pos (show a.head < 0 ∨ b.head < 0 by omega)]; rfl, rfl⟩
          · first
              | (refine op_want rfl rfl ?_
                 refine op_v (v_cmpfA rfl rfl rfl) rfl ?_)
              | (refine op_skip rfl rfl (by simp [undef]) rfl ?_)
            refine op_v (v_pickf rfl rfl) rfl ?_
            refine op_v (v_assign rfl) rfl ?_
            refine ops_nil ?_
            refine post_next ?_
            refine code_cond_f rfl ?_
            refine code_seq ?_
            refine code_region ?_
            refine op_v (v_fieldB 0 Tryz.underlying48 rfl rfl fz3 rfl) rfl ?_
            refine op_v (v_loadA ty3 rfl rfl) rfl ?_
            refine op_v (v_fieldB 0 Tryz.underlying48 rfl rfl fz3 rfl) rfl ?_
            refine op_v (v_loadA ty3 rfl rfl) rfl ?_
            by_cases h77 : a.head ≠ b.head
            · refine op_v (v_cmptA rfl rfl rfl) rfl ?_
              refine op_v (v_assign rfl) rfl ?_
              refine ops_nil ?_
              refine post_next ?_
              refine code_cond_t rfl ?_
              refine code_seq ?_
              refine code_region ?_
              refine op_v (v_move rfl) rfl ?_
              refine op_v (v_fieldB 0 Tryz.underlying48 rfl rfl fz3 rfl) rfl ?_
              refine op_v (v_loadA ty3 rfl rfl) rfl ?_
              refine op_v (v_fieldB 0 Tryz.underlying48 rfl rfl fz3 rfl) rfl ?_
              refine op_v (v_loadA ty3 rfl rfl) rfl ?_
              refine op_v (v_subb rfl rfl rfl (by omega)) rfl ?_
              refine op_call pl170 rfl rfl ((side_does hV)) (List.Perm.refl _) ?_
              rintro v84 I84 _ hI84 ⟨rfl, rfl⟩
              refine op_v (v_assign rfl) rfl ?_
              refine ops_nil ?_
              refine post_next ?_
              refine code_ret ?_
              refine post_ret_block ?_
              refine post_ret_then ?_
              refine post_ret (rs := [.tmp 6]) rfl (List.Perm.refl _) (.cons (.tmp rfl) .nil) (List.nil_sublist _) ?_
              exact ⟨by rw [stT_eq gs a b, if_neg hab, if_neg (show ¬ (wgtG gs a ≠ wgtG gs b) by omega), if_neg (show ¬ (a.head < 0 ∨ b.head < 0) by omega), if_pos h77]; rfl, rfl⟩
            · have hlen : (a.args.length : Int) = b.args.length := by rw [hA.arity (by omega), hB.arity (by omega), show a.head = b.head by omega]
              refine op_v (v_cmpfA rfl rfl rfl) rfl ?_
              refine op_v (v_assign rfl) rfl ?_
              refine ops_nil ?_
              refine post_next ?_
              refine code_cond_f rfl ?_
              refine code_seq ?_
              refine code_region ?_
              refine op_v (v_fieldB 1 Tryz.underlying48 rfl rfl fz46 rfl) rfl ?_
              refine op_v (v_loadA ty46 rfl rfl) rfl ?_
              refine op_v (v_len Tryz.underlying46 rfl) rfl ?_
              refine op_v (v_move rfl) rfl ?_
              refine ops_nil ?_
              refine post_next ?_
              refine code_block ?_
              refine code_loop (fun m σ' I' δ' => ∃ k : Nat, m = a.args.length - k ∧ k ≤ a.args.length ∧ σ' = [(0, .slice ad gs.length c), (4, .pointer (some ⟨b4, 0, none⟩)), (5, .pointer (some ⟨b5, 0, none⟩)), (7, .pointer (some ⟨b15, 0, none⟩)), (26, .int .i64 a.args.length), (27, .int .i64 k)] ∧ I.le I' ∧ δ' = LoadE b15 b13 (wgtG gs a - wgtG gs b) xs2 ++ [.box b5 48 [.int .i64 b.head, .slice b0 b.args.length e0], .box b4 48 [.int .i64 a.head, .slice a0 a.args.length c0]] ∧ stL gs a.args b.args = stL gs (a.args.drop k) (b.args.drop k)) a.args.length [(0, .slice ad gs.length c), (4, .pointer (some ⟨b4, 0, none⟩)), (5, .pointer (some ⟨b5, 0, none⟩)), (7, .pointer (some ⟨b15, 0, none⟩)), (26, .int .i64 a.args.length), (27, .int .i64 (0 : Nat))] ⟨0, rfl, Nat.zero_le _, rfl, Imm.leA, rfl, rfl⟩ ⟨rfl, rfl, rfl, rfl, rfl, rfl, trivial⟩ ?_
              rintro m _ I0 _ ⟨k, rfl, hk, rfl, hI0, rfl, hst⟩
              refine code_seq ?_
              refine code_region ?_
              refine op_v (v_cmp rfl rfl rfl) rfl ?_
              refine ops_nil ?_
              refine post_next ?_
              refine code_seq ?_
              refine code_cond rfl (fun hc4 => ?_) (fun hc4 => ?_)
              · have hlt : k < a.args.length := by simpa using hc4
                have hlt2 : k < b.args.length := by omega
                have hs1 := (hata k hlt).isSome
                have hs2 := (hatb k hlt2).isSome
                have hm := sizeL_mem a.args k hlt
                rw [stL_drop gs _ _ k hlt hlt2] at hst
                refine code_skip ?_
                refine post_next ?_
                refine code_seq ?_
                refine code_block ?_
                refine code_seq ?_
                refine code_region ?_
                refine op_v (v_move rfl) rfl ?_
                refine op_v (v_assign rfl) rfl ?_
                refine ops_nil ?_
                refine post_next ?_
                refine code_seq ?_
                refine code_draw (.fl 0 (.fl 1 (.fl 2 (.fl 3 (.fl 4 (.fl 5 (.fl 6 (.fl 7 (.fl 8 (.fl 9 (.fl 10 (.ef 11 (.ef 12 .done))))))))))))) (fun _ => _) mixed (by kernel_rfl) (by kernel_rfl) (fun _ => (List.Sublist.refl _)) ?_
                refine e_fl rfl rfl (fun hs_ => PF.mk rfl (v_move rfl) hs_) ?_
                refine e_fl rfl rfl (fun hs_ => PF.mk rfl (v_fieldB 1 Tryz.underlying48 rfl rfl fz46 rfl) hs_) ?_
                refine e_fl rfl rfl (fun hs_ => PF.mk rfl (v_loadA ty46 rfl rfl) hs_) ?_
                refine e_fl rfl rfl (fun hs_ => PF.mk rfl (v_move rfl) hs_) ?_
                refine e_fl rfl rfl (fun hs_ => PF.mk rfl (v_indexA Tryz.underlying46 sz48 rfl rfl) hs_) ?_
                refine e_fl rfl rfl (fun hs_ => PF.mk rfl (v_loadI0 ty48 ((hata k hlt).mono hI0) rfl rfl rfl) hs_) ?_
                refine e_fl rfl rfl (fun hs_ => PF.mk rfl (v_fieldB 1 Tryz.underlying48 rfl rfl fz46 rfl) hs_) ?_
                refine e_fl rfl rfl (fun hs_ => PF.mk rfl (v_loadA ty46 rfl rfl) hs_) ?_
                refine e_fl rfl rfl (fun hs_ => PF.mk rfl (v_move rfl) hs_) ?_
                refine e_fl rfl rfl (fun hs_ => PF.mk rfl (v_indexA Tryz.underlying46 sz48 rfl rfl) hs_) ?_
                refine e_fl rfl rfl (fun hs_ => PF.mk rfl (v_loadI0 ty48 ((hatb k hlt2).mono hI0) rfl rfl rfl) hs_) ?_
                refine e_eff rfl (by intro cs b hc; cases hc) (by intro c hc; cases hc) ?_
                refine op_call pl155 rfl rfl ((ih a.args[k] b.args[k] (by omega) _ _ _ _ (hg.mono Imm.leA) ((hsuba k hlt).mono Imm.leA) ((hsubb k hlt2).mono Imm.leA) (hA.child k hlt).1 (hB.child k hlt2).1)) Parts.none ?_
                rintro v41 I41 _ hI41 ⟨rfl, rfl⟩
                refine ops_nil ?_
                refine e_next rfl side_allA ?_
                refine e_eff rfl (by intro cs b hc; cases hc) (by intro c hc; cases hc) ?_
                refine op_v (v_assign rfl) rfl ?_
                refine ops_nil ?_
                refine e_next rfl (side_nil (by kernel_rfl)) ?_
                refine e_done ?_
                refine post_next ?_
                refine code_seq ?_
                refine code_region ?_
                refine op_v (v_move rfl) rfl ?_
                by_cases h43 : stT gs a.args[k] b.args[k] ≠ 0
                · refine op_v (v_cmptA rfl rfl rfl) rfl ?_
                  refine ops_nil ?_
                  refine post_next ?_
                  refine code_cond_t rfl ?_
                  refine code_seq ?_
                  refine code_seq ?_
                  refine code_region ?_
                  refine op_v (v_move rfl) rfl ?_
                  by_cases h45 : stT gs a.args[k] b.args[k] = 2
                  · refine op_v (v_cmptA rfl rfl rfl) rfl ?_
                    refine ops_nil ?_
                    refine post_next ?_
                    refine code_cond_t rfl ?_
                    refine code_seq ?_
                    refine code_region ?_
                    refine op_v (v_move rfl) rfl ?_
                    refine op_v (v_assign rfl) rfl ?_
                    refine ops_nil ?_
                    refine post_next ?_
                    refine code_ret ?_
                    refine post_ret_then ?_
                    refine post_ret_block ?_
                    refine post_ret_then ?_
                    refine post_ret_then ?_
                    refine post_ret_block ?_
                    refine post_ret_block ?_
                    refine post_ret_then ?_
                    refine post_ret (rs := [.tmp 6]) rfl (List.Perm.refl _) (.cons (.tmp rfl) .nil) (List.nil_sublist _) ?_
                    rw [if_pos h43] at hst
                    exact ⟨by rw [stT_eq gs a b, if_neg hab, if_neg (show ¬ (wgtG gs a ≠ wgtG gs b) by omega), if_neg (show ¬ (a.head < 0 ∨ b.head < 0) by omega), if_neg h77, hst, if_neg h43, if_pos h45, h45]; rfl, rfl⟩
                  · refine op_v (v_cmpfA rfl rfl rfl) rfl ?_
                    refine ops_nil ?_
                    refine post_next ?_
                    refine code_cond_f rfl ?_
                    refine code_skip ?_
                    refine post_next ?_
                    refine code_seq ?_
                    refine code_region ?_
                    refine op_v (v_move rfl) rfl ?_
                    refine op_v (v_move rfl) rfl ?_
                    refine op_call pl170 rfl rfl ((side_does hV)) (List.Perm.refl _) ?_
                    rintro v49 I49 _ hI49 ⟨rfl, rfl⟩
                    refine op_v (v_assign rfl) rfl ?_
                    refine ops_nil ?_
                    refine post_next ?_
                    refine code_ret ?_
                    refine post_ret_block ?_
                    refine post_ret_then ?_
                    refine post_ret_then ?_
                    refine post_ret_block ?_
                    refine post_ret_block ?_
                    refine post_ret_then ?_
                    refine post_ret (rs := [.tmp 6]) rfl (List.Perm.refl _) (.cons (.tmp rfl) .nil) (List.nil_sublist _) ?_
                    rw [if_pos h43] at hst
                    exact ⟨by rw [stT_eq gs a b, if_neg hab, if_neg (show ¬ (wgtG gs a ≠ wgtG gs b) by omega), if_neg (show ¬ (a.head < 0 ∨ b.head < 0) by omega), if_neg h77, hst, if_neg h43, if_neg h45]; rfl, rfl⟩
                · refine op_v (v_cmpfA rfl rfl rfl) rfl ?_
                  refine ops_nil ?_
                  refine post_next ?_
                  refine code_cond_f rfl ?_
                  refine code_skip ?_
                  refine post_out ?_
                  refine post_next ?_
                  refine code_region ?_
                  refine op_v (v_addb rfl rfl rfl (by omega)) rfl ?_
                  refine op_v (v_move rfl) rfl ?_
                  refine ops_nil ?_
                  refine post_again (a.args.length - (k + 1)) [(0, .slice ad gs.length c), (4, .pointer (some ⟨b4, 0, none⟩)), (5, .pointer (some ⟨b5, 0, none⟩)), (7, .pointer (some ⟨b15, 0, none⟩)), (26, .int .i64 a.args.length), (27, .int .i64 (k + 1 : Nat))] (by omega) ⟨k + 1, rfl, hlt, rfl, Imm.leA, rfl, by rw [hst, if_neg h43]⟩ ⟨rfl, rfl, rfl, rfl, rfl, rfl, trivial⟩
              · have hge : k = a.args.length := by simp at hc4; omega
                refine code_exit ?_
                refine post_exit_then ?_
                refine post_exit_then ?_
                refine post_exit ?_
                refine post_out ?_
                refine post_next ?_
                refine code_seq ?_
                refine code_region ?_
                refine op_v (v_assign rfl) rfl ?_
                refine ops_nil ?_
                refine post_next ?_
                refine code_ret ?_
                refine post_ret (rs := [.tmp 6]) rfl (List.Perm.refl _) (.cons (.tmp rfl) .nil) (List.nil_sublist _) ?_
                have hz : stL gs a.args b.args = 0 := by rw [hst, hge, List.drop_length]; cases b.args.drop a.args.length <;> rfl
                exact ⟨by rw [stT_eq gs a b, if_neg hab, if_neg (show ¬ (wgtG gs a ≠ wgtG gs b) by omega), if_neg (show ¬ (a.head < 0 ∨ b.head < 0) by omega), if_neg h77, if_pos hz]; rfl, rfl⟩
end Go.Proofs.YtdbadicpbmndbaaGreat
/- Walks: some term among others; rows without others. -/
set_option linter.unusedVariables false
set_option linter.unusedSimpArgs false
/- short -/
namespace Go.Proofs.YtdbadicpbmndbaaGreat
open Go Lg

def idxQ {α : Type} (p : α → Bool) : List α → Int
  | [] => -1
  | s :: r => if p s then 0 else if idxQ p r < 0 then -1 else idxQ p r + 1
theorem idxQ_none {α : Type} (p : α → Bool) : ∀ gs : List α, gs.any p = false → idxQ p gs = -1
  | [], _ => rfl
  | s :: r, h => by simp only [List.any_cons, Bool.or_eq_false_iff] at h; simp [idxQ, h.1, idxQ_none p r h.2]
theorem idxQ_hit {α : Type} (p : α → Bool) : ∀ (gs : List α) (k : Nat) (h : k < gs.length), (gs.take k).any p = false → p gs[k] = true → idxQ p gs = k
  | s :: r, 0, _, _, hk => by simp at hk; simp [idxQ, hk]
  | s :: r, k + 1, h, hp, hk => by
    simp only [List.take_succ_cons, List.any_cons, Bool.or_eq_false_iff] at hp
    have := idxQ_hit p r k (by simpa using h) hp.2 (by simpa using hk)
    simp only [idxQ, hp.1, Bool.false_eq_true, if_false, this]
    rw [if_neg (by omega)]; omega
theorem idxQ_any {α : Type} (p : α → Bool) : ∀ gs : List α, (0 ≤ idxQ p gs ↔ gs.any p = true) ∧ -1 ≤ idxQ p gs
  | [] => by simp [idxQ]
  | s :: r => by
    obtain ⟨h1, h2⟩ := idxQ_any p r
    simp only [idxQ, List.any_cons, Bool.or_eq_true, ← h1]
    by_cases h : p s = true
    · simp [h]
    · simp only [h, Bool.false_eq_true, if_false, false_or]; split <;> omega
theorem any_take_q {α : Type} {p : α → Bool} {gs : List α} {k : Nat} (h : k < gs.length) (hp : (gs.take k).any p = false) (hk : p gs[k] = false) : (gs.take (k + 1)).any p = false := by
  rw [List.take_succ_eq_append_getElem h, List.any_append, hp]; simp [hk]
theorem ld_pair {cs : List Value} {o : Nat} {x y : Value} (h : cs[o]? = some x) (k : cs[o + 1]? = some y) : ld true 2 (cs.drop o) = some (.agg #[x, y]) := by
  obtain ⟨hl, rfl⟩ := List.getElem?_eq_some_iff.1 h
  obtain ⟨hl2, rfl⟩ := List.getElem?_eq_some_iff.1 k
  rw [List.drop_eq_getElem_cons hl, List.drop_eq_getElem_cons hl2]; rfl
theorem RepS.shape {I : Imm} {v : Value} {ts : List T} (h : RepS I v ts) : ∃ ad c, v = .slice ad ts.length c := by
  obtain ⟨ad, c, ss, ts, _, _, _, _, _⟩ := h; exact ⟨ad, c, rfl⟩

theorem IdxT_does {I : Imm} {v fv : Value} {ts : List T} {δf : List Ent} {p : T → Bool} (hv : RepS I v ts) (hf : ∀ J u t, I.le J → RepT J u t → t ∈ ts → FDoes Tryz.prog fv [u] J δf (fun v _ δ' => v = .bool (p t) ∧ δ' = δf)) :
    Does Tryz.prog 93 [v, fv] I δf (fun v _ δ' => v = .int .i64 (idxQ p ts) ∧ δ' = δf) := by
  obtain ⟨ad, c, ss, ts, hc, hb, hat, hr, hsub0⟩ := hv
  have hsub : ∀ i (h : i < ts.length), RepT I (.agg #[.int .i64 ts[i].head, .slice (ss i).1 ts[i].args.length (ss i).2]) ts[i] := fun i hi => RepT.mk _ _ (hr i hi) (hsub0 i hi)
  refine Does.intro Tryz.func93 rfl Tryz.ntmps93 rfl fun w0 => ?_
  refine code_seq ?_
  refine code_region ?_
  refine op_v (v_assign rfl) rfl ?_
  refine ops_nil ?_
  refine post_next ?_
  refine code_seq ?_
  refine code_seq ?_
  refine code_region ?_
  refine op_v (v_move rfl) rfl ?_
  refine op_v (v_len Tryz.underlying46 rfl) rfl ?_
  refine op_v (v_move rfl) rfl ?_
  refine ops_nil ?_
  refine post_next ?_
  refine code_block ?_
  refine code_loop (fun m σ' I' δ' => ∃ k : Nat, m = ts.length - k ∧ k ≤ ts.length ∧ σ' = [(0, .slice ad ts.length c), (1, fv), (7, .int .i64 ts.length), (8, .int .i64 k)] ∧ I.le I' ∧ δ' = δf ∧ (ts.take k).any p = false) ts.length [(0, .slice ad ts.length c), (1, fv), (7, .int .i64 ts.length), (8, .int .i64 (0 : Nat))] ⟨0, rfl, Nat.zero_le _, rfl, Imm.le_refl _, rfl, rfl⟩ ⟨rfl, rfl, rfl, rfl, trivial⟩ ?_
  rintro m _ I0 _ ⟨k, rfl, hk, rfl, hI0, rfl, hp⟩
  refine code_seq ?_
  refine code_region ?_
  refine op_v (v_cmp rfl rfl rfl) rfl ?_
  refine ops_nil ?_
  refine post_next ?_
  refine code_seq ?_
  refine code_cond rfl (fun hc0 => ?_) (fun hc0 => ?_)
  · have hlt : k < ts.length := by simpa using hc0
    have hs1 := (hat k hlt).isSome
    refine code_skip ?_
    refine post_next ?_
    refine code_seq ?_
    refine code_block ?_
    refine code_seq ?_
    refine code_region ?_
    refine op_v (v_move rfl) rfl ?_
    refine op_v (v_assign rfl) rfl ?_
    refine ops_nil ?_
    refine post_next ?_
    refine code_seq ?_
    refine code_region ?_
    refine op_v (v_move rfl) rfl ?_
    refine op_v (v_move rfl) rfl ?_
    refine op_v (v_move rfl) rfl ?_
    refine op_v (v_indexA Tryz.underlying46 sz48 rfl rfl) rfl ?_
    refine op_v (v_loadI0 ty48 ((hat k hlt).mono hI0) rfl rfl rfl) rfl ?_
    refine op_fcall rfl rfl rfl ((hf _ _ ts[k] hI0 ((hsub k hlt).mono hI0) (List.getElem_mem _))) Parts.all ?_
    rintro v16 I16 _ hI16 ⟨rfl, rfl⟩
    rw [List.append_nil]
    refine ops_nil ?_
    refine post_next ?_
    refine code_cond rfl (fun hc1 => ?_) (fun hc1 => ?_)
    · refine code_seq ?_
      refine code_region ?_
      refine op_v (v_move rfl) rfl ?_
      refine op_v (v_assign rfl) rfl ?_
      refine ops_nil ?_
      refine post_next ?_
      refine code_ret ?_
      refine post_ret_block ?_
      refine post_ret_then ?_
      refine post_ret_then ?_
      refine post_ret_block ?_
      refine post_ret_then ?_
      refine post_ret (rs := [.tmp 4]) rfl (List.Perm.refl _) (.cons (.tmp rfl) .nil) (List.Sublist.refl _) ?_
      exact ⟨by rw [idxQ_hit p ts k hlt hp hc1]; rfl, rfl⟩
    · refine code_skip ?_
      refine post_out ?_
      refine post_next ?_
      refine code_region ?_
      refine op_v (v_addb rfl rfl rfl (by omega)) rfl ?_
      refine op_v (v_move rfl) rfl ?_
      refine ops_nil ?_
      refine post_again (ts.length - (k + 1)) [(0, .slice ad ts.length c), (1, fv), (7, .int .i64 ts.length), (8, .int .i64 (k + 1 : Nat))] (by omega) ⟨k + 1, rfl, hlt, rfl, Imm.le_trans hI0 hI16, rfl, any_take_q hlt hp hc1⟩ ⟨rfl, rfl, rfl, rfl, trivial⟩
  · have hge : k = ts.length := by simp at hc0; omega
    subst hge
    rw [List.take_length] at hp
    refine code_exit ?_
    refine post_exit_then ?_
    refine post_exit_then ?_
    refine post_exit ?_
    refine post_next ?_
    refine code_seq ?_
    refine code_region ?_
    refine op_v (v_assign rfl) rfl ?_
    refine ops_nil ?_
    refine post_next ?_
    refine code_ret ?_
    refine post_ret (rs := [.tmp 4]) rfl (List.Perm.refl _) (.cons (.tmp rfl) .nil) (List.Sublist.refl _) ?_
    exact ⟨by rw [idxQ_none p ts hp]; rfl, rfl⟩
theorem ContT_does {I : Imm} {v fv : Value} {ts : List T} {δf : List Ent} {p : T → Bool} (hv : RepS I v ts) (hf : ∀ J u t, I.le J → RepT J u t → t ∈ ts → FDoes Tryz.prog fv [u] J δf (fun v _ δ' => v = .bool (p t) ∧ δ' = δf)) :
    Does Tryz.prog 47 [v, fv] I δf (fun v _ δ' => v = .bool (ts.any p) ∧ δ' = δf) := by
  refine Does.intro Tryz.func47 rfl Tryz.ntmps47 rfl fun w0 => ?_
  refine code_seq ?_
  refine code_region ?_
  refine op_v (v_assign rfl) rfl ?_
  refine ops_nil ?_
  refine post_next ?_
  refine code_seq ?_
  refine code_region ?_
  refine op_v (v_move rfl) rfl ?_
  refine op_v (v_move rfl) rfl ?_
  refine op_call pl93 rfl rfl ((IdxT_does hv hf)) Parts.all ?_
  rintro v7 I7 _ hI7 ⟨rfl, rfl⟩
  rw [List.append_nil]
  refine op_v (v_cmp rfl rfl rfl) rfl ?_
  refine op_v (v_assign rfl) rfl ?_
  refine ops_nil ?_
  refine post_next ?_
  refine code_ret ?_
  refine post_ret (rs := [.tmp 4]) rfl (List.Perm.refl _) (.cons (.tmp rfl) .nil) (List.Sublist.refl _) ?_
  exact ⟨bool_b (by have := (idxQ_any p ts).1; cases h : ts.any p <;> simp_all), rfl⟩
/-- in a row of one's own -/
abbrev tRow (A : Option Addr) (c n : Nat) (xs : List Value) : Ent := .row (.slice A n c) 48 2 n xs
theorem IdxR_does {I : Imm} {fv : Value} {ts : List T} {A : Option Addr} {c : Nat} {xs : List Value} {δf : List Ent} {p : T → Bool} (hx : RowT I xs ts) (hb : ts.length ≤ 4398046511104) (hf : ∀ J u t, I.le J → RepT J u t → t ∈ ts → FDoes Tryz.prog fv [u] J (tRow A c ts.length xs :: δf) (fun v _ δ' => v = .bool (p t) ∧ δ' = tRow A c ts.length xs :: δf)) :
    Does Tryz.prog 93 [.slice A ts.length c, fv] I (tRow A c ts.length xs :: δf) (fun v _ δ' => v = .int .i64 (idxQ p ts) ∧ δ' = tRow A c ts.length xs :: δf) := by
  refine Does.intro Tryz.func93 rfl Tryz.ntmps93 rfl fun w0 => ?_
  refine code_seq ?_
  refine code_region ?_
  refine op_v (v_assign rfl) rfl ?_
  refine ops_nil ?_
  refine post_next ?_
  refine code_seq ?_
  refine code_seq ?_
  refine code_region ?_
  refine op_v (v_move rfl) rfl ?_
  refine op_v (v_len Tryz.underlying46 rfl) rfl ?_
  refine op_v (v_move rfl) rfl ?_
  refine ops_nil ?_
  refine post_next ?_
  refine code_block ?_
  refine code_loop (fun m σ' I' δ' => ∃ k : Nat, m = ts.length - k ∧ k ≤ ts.length ∧ σ' = [(0, .slice A ts.length c), (1, fv), (7, .int .i64 ts.length), (8, .int .i64 k)] ∧ I.le I' ∧ δ' = tRow A c ts.length xs :: δf ∧ (ts.take k).any p = false) ts.length [(0, .slice A ts.length c), (1, fv), (7, .int .i64 ts.length), (8, .int .i64 (0 : Nat))] ⟨0, rfl, Nat.zero_le _, rfl, Imm.le_refl _, rfl, rfl⟩ ⟨rfl, rfl, rfl, rfl, trivial⟩ ?_
  rintro m _ I0 _ ⟨k, rfl, hk, rfl, hI0, rfl, hp⟩
  refine code_seq ?_
  refine code_region ?_
  refine op_v (v_cmp rfl rfl rfl) rfl ?_
  refine ops_nil ?_
  refine post_next ?_
  refine code_seq ?_
  refine code_cond rfl (fun hc0 => ?_) (fun hc0 => ?_)
  · have hlt : k < ts.length := by simpa using hc0
    obtain ⟨s, hs1, hs2, hs3⟩ := hx.2 k hlt
    refine code_skip ?_
    refine post_next ?_
    refine code_seq ?_
    refine code_block ?_
    refine code_seq ?_
    refine code_region ?_
    refine op_v (v_move rfl) rfl ?_
    refine op_v (v_assign rfl) rfl ?_
    refine ops_nil ?_
    refine post_next ?_
    refine code_seq ?_
    refine code_region ?_
    refine OpsJ.rowSome Has.here (by omega) (fun hA hcr => ?_)
    refine op_v (v_move rfl) rfl ?_
    refine op_v (v_move rfl) rfl ?_
    refine op_v (v_move rfl) rfl ?_
    refine op_v (v_index Tryz.underlying46 sz48 rfl rfl hlt hA) rfl ?_
    refine op_v (v_loadRow ty48 rfl Has.here hA (ld_pair hs1 hs2)) rfl ?_
    refine op_fcall rfl rfl rfl ((hf _ _ ts[k] hI0 (hs3.mono hI0) (List.getElem_mem _))) Parts.all ?_
    rintro v16 I16 _ hI16 ⟨rfl, rfl⟩
    rw [List.append_nil]
    refine ops_nil ?_
    refine post_next ?_
    refine code_cond rfl (fun hc1 => ?_) (fun hc1 => ?_)
    · refine code_seq ?_
      refine code_region ?_
      refine op_v (v_move rfl) rfl ?_
      refine op_v (v_assign rfl) rfl ?_
      refine ops_nil ?_
      refine post_next ?_
      refine code_ret ?_
      refine post_ret_block ?_
      refine post_ret_then ?_
      refine post_ret_then ?_
      refine post_ret_block ?_
      refine post_ret_then ?_
      refine post_ret (rs := [.tmp 4]) rfl (List.Perm.refl _) (.cons (.tmp rfl) .nil) (List.Sublist.refl _) ?_
      exact ⟨by rw [idxQ_hit p ts k hlt hp hc1]; rfl, rfl⟩
    · refine code_skip ?_
      refine post_out ?_
      refine post_next ?_
      refine code_region ?_
      refine op_v (v_addb rfl rfl rfl (by omega)) rfl ?_
      refine op_v (v_move rfl) rfl ?_
      refine ops_nil ?_
      refine post_again (ts.length - (k + 1)) [(0, .slice A ts.length c), (1, fv), (7, .int .i64 ts.length), (8, .int .i64 (k + 1 : Nat))] (by omega) ⟨k + 1, rfl, hlt, rfl, Imm.le_trans hI0 hI16, rfl, any_take_q hlt hp hc1⟩ ⟨rfl, rfl, rfl, rfl, trivial⟩
  · have hge : k = ts.length := by simp at hc0; omega
    have hp2 : ts.any p = false := by rw [hge, List.take_length] at hp; exact hp
    refine code_exit ?_
    refine post_exit_then ?_
    refine post_exit_then ?_
    refine post_exit ?_
    refine post_next ?_
    refine code_seq ?_
    refine code_region ?_
    refine op_v (v_assign rfl) rfl ?_
    refine ops_nil ?_
    refine post_next ?_
    refine code_ret ?_
    refine post_ret (rs := [.tmp 4]) rfl (List.Perm.refl _) (.cons (.tmp rfl) .nil) (List.Sublist.refl _) ?_
    exact ⟨by rw [idxQ_none p ts hp2]; rfl, rfl⟩
theorem Delete_does {I : Imm} {n i c : Nat} {A : Option Addr} {xs : List Value} (hi : i < n) (hb : n ≤ 4398046511104) (h1 : ∀ u ∈ xs, u.oneCell' = true) :
    Does Tryz.prog 152 [.slice A n c, .int .i64 i, .int .i64 ((i : Int) + 1)] I [tRow A c n xs] (fun v _ δ' => v = .slice A (n - 1) c ∧ δ' = [tRow A c (n - 1) (xs.take (i * 2) ++ (xs.drop ((i + 1) * 2)).take ((n - (i + 1)) * 2))]) := by
  have e1 : (i : Int) + 1 = ((i + 1 : Nat) : Int) := by omega
  have e2 : i + (n - (i + 1)) = n - 1 := by omega
  rw [e1]
  refine Does.intro Tryz.func152 rfl Tryz.ntmps152 rfl fun w0 => ?_
  refine code_seq ?_
  refine code_region ?_
  refine op_v (v_assign rfl) rfl ?_
  refine ops_nil ?_
  refine post_next ?_
  refine code_seq ?_
  refine code_region ?_
  refine OpsJ.rowSome Has.here (by omega) (fun hA hcr => ?_)
  refine op_v (v_move rfl) rfl ?_
  refine op_v (v_move rfl) rfl ?_
  refine op_v (v_move rfl) rfl ?_
  refine op_v (v_move rfl) rfl ?_
  refine op_v (v_len Tryz.underlying46 rfl) rfl ?_
  refine op_v (v_slice3 Tryz.underlying46 sz48 rfl rfl rfl rfl (by omega) (by omega) (by omega)) rfl ?_
  refine ops_nil ?_
  refine post_next ?_
  refine code_seq ?_
  refine code_seq ?_
  refine code_region ?_
  refine op_v (v_move rfl) rfl ?_
  refine op_v (v_move rfl) rfl ?_
  refine op_v (v_cmpf rfl rfl rfl (by omega)) rfl ?_
  refine ops_nil ?_
  refine post_next ?_
  refine code_cond_f rfl ?_
  refine code_skip ?_
  refine post_next ?_
  refine code_seq ?_
  refine code_region ?_
  refine op_v (v_move rfl) rfl ?_
  refine op_v (v_len Tryz.underlying46 rfl) rfl ?_
  refine op_v (v_assign rfl) rfl ?_
  refine ops_nil ?_
  refine post_next ?_
  refine code_seq ?_
  refine code_draw (.fl 0 (.fl 1 (.fl 2 (.fl 3 (.fl 4 (.fl 5 (.ef 6 (.ef 7 .done)))))))) (fun _ => []) mixed (by kernel_rfl) (by kernel_rfl) (fun _ => (List.nil_sublist _)) ?_
  refine e_float rfl rfl (fun hs_ => PF.mk rfl (v_move rfl) hs_) Imm.leA (by intro x hx; cases hx) ?_
  refine e_float rfl rfl (fun hs_ => PF.mk rfl (v_move rfl) hs_) Imm.leA (by intro x hx; cases hx) ?_
  refine e_float rfl rfl (fun hs_ => PF.mk rfl (v_sliceTo Tryz.underlying46 sz48 rfl rfl (by omega)) hs_) Imm.leA (by intro x hx; cases hx) ?_
  refine e_float rfl rfl (fun hs_ => PF.mk rfl (v_move rfl) hs_) Imm.leA (by intro x hx; cases hx) ?_
  refine e_float rfl rfl (fun hs_ => PF.mk rfl (v_move rfl) hs_) Imm.leA (by intro x hx; cases hx) ?_
  refine e_float rfl rfl (fun hs_ => PF.mk rfl (v_sliceFrom Tryz.underlying46 sz48 rfl rfl (by omega) (by omega)) hs_) Imm.leA (by intro x hx; cases hx) ?_
  refine e_eff rfl (by intro cs b hc; cases hc) (by intro c hc; cases hc) ?_
  refine o_appendSelf Tryz.underlying46 bs48 rfl rfl rfl Swap.here (by omega) (by omega) (by omega) h1 hb (by omega) hA ?_
  refine ops_nil ?_
  refine e_next rfl (side_all Imm.leA (fun _ => (by intro x hx; cases hx))) ?_
  refine e_eff rfl (by intro cs b hc; cases hc) (by intro c hc; cases hc) ?_
  refine op_v (v_assign rfl) rfl ?_
  refine ops_nil ?_
  refine e_next rfl (side_nil (by kernel_rfl)) ?_
  refine e_done ?_
  refine post_next ?_
  refine code_seq ?_
  refine code_region ?_
  rw [e2]
  refine op_v (v_move rfl) rfl ?_
  refine op_v (v_move rfl) rfl ?_
  refine op_v (v_len Tryz.underlying46 rfl) rfl ?_
  refine op_v (v_move rfl) rfl ?_
  refine op_v (v_slice2 Tryz.underlying46 sz48 rfl rfl rfl (by omega) (by omega)) rfl ?_
  refine o_clear Tryz.underlying46 (by kernel_rfl) (z := .agg #[.int .i64 0, .slice none 0 0]) (by rfl) (by rfl) rfl Has.here (by omega) ?_
  refine ops_nil ?_
  refine post_next ?_
  refine code_seq ?_
  refine code_region ?_
  refine op_v (v_move rfl) rfl ?_
  refine op_v (v_assign rfl) rfl ?_
  refine ops_nil ?_
  refine post_next ?_
  refine code_ret ?_
  refine post_ret (rs := [.tmp 6]) rfl (List.Perm.refl _) (.cons (.tmp rfl) .nil) (List.Sublist.refl _) ?_
  exact ⟨rfl, rfl⟩
end Go.Proofs.YtdbadicpbmndbaaGreat
/- Walks: rows without others; which row is over another one. -/
set_option linter.unusedVariables false
set_option linter.unusedSimpArgs false
/- short -/
namespace Go.Proofs.YtdbadicpbmndbaaGreat
open Go Lg

theorem RowT.one1 {I : Imm} {xs : List Value} {ts : List T} (h : RowT I xs ts) : ∀ u ∈ xs, u.oneCell' = true := fun u hu => by
  obtain ⟨j, hj, rfl⟩ := List.getElem_of_mem hu
  have hl := h.1
  obtain ⟨s, h1, h2, _⟩ := h.2 (j / 2) (by omega)
  rcases Nat.mod_two_eq_zero_or_one j with e | e
  · have ej : j / 2 * 2 = j := by omega
    rw [ej, List.getElem?_eq_getElem hj] at h1
    rw [Option.some.inj h1]; rfl
  · have ej : j / 2 * 2 + 1 = j := by omega
    rw [ej, List.getElem?_eq_getElem hj] at h2
    rw [Option.some.inj h2]; rfl
theorem RowT.del {I : Imm} {xs : List Value} {ts : List T} {i : Nat} (h : RowT I xs ts) (hi : i < ts.length) : RowT I (xs.take (i * 2) ++ (xs.drop ((i + 1) * 2)).take ((ts.length - (i + 1)) * 2)) (ts.eraseIdx i) := by
  have hl := h.1
  have e : ts.eraseIdx i = ts.take i ++ ts.drop (i + 1) := List.eraseIdx_eq_take_drop_succ ..
  rw [e]
  refine RowT.app ⟨by rw [List.length_take, List.length_take]; omega, fun j hj => ?_⟩ ⟨by rw [List.length_take, List.length_drop, List.length_drop]; omega, fun j hj => ?_⟩
  · have hj' : j < i := by rw [List.length_take] at hj; omega
    obtain ⟨s, h1, h2, h3⟩ := h.2 j (by omega)
    have e2 : (ts.take i)[j] = ts[j]'(by omega) := List.getElem_take
    rw [e2]
    exact ⟨s, by rw [List.getElem?_take_of_lt (by omega)]; exact h1, by rw [List.getElem?_take_of_lt (by omega)]; exact h2, h3⟩
  · have hj' : j < ts.length - (i + 1) := by rw [List.length_drop] at hj; exact hj
    obtain ⟨s, h1, h2, h3⟩ := h.2 (i + 1 + j) (by omega)
    have e2 : (ts.drop (i + 1))[j] = ts[i + 1 + j]'(by omega) := List.getElem_drop
    rw [e2]
    exact ⟨s, by rw [List.getElem?_take_of_lt (by omega), List.getElem?_drop, show (i + 1) * 2 + j * 2 = (i + 1 + j) * 2 by omega]; exact h1, by rw [List.getElem?_take_of_lt (by omega), List.getElem?_drop, show (i + 1) * 2 + (j * 2 + 1) = (i + 1 + j) * 2 + 1 by omega]; exact h2, h3⟩
theorem idxQ_erase (t : T) : ∀ (l : List T), t ∈ l → ∃ i : Nat, idxQ (fun u => decide (t = u)) l = i ∧ i < l.length ∧ l.eraseIdx i = l.erase t
  | [], h => by cases h
  | x :: r, h => by
    by_cases e : t = x
    · subst e; exact ⟨0, by simp [idxQ], by simp, by simp⟩
    · have hr : t ∈ r := by rcases List.mem_cons.1 h with h | h; exact absurd h e; exact h
      obtain ⟨i, h1, h2, h3⟩ := idxQ_erase t r hr
      have e2 : (x == t) = false := by simp; exact fun h => e h.symm
      refine ⟨i + 1, ?_, by simp; omega, ?_⟩
      · simp only [idxQ, h1]
        rw [if_neg (by simpa using e), if_neg (by omega)]; omega
      · rw [List.eraseIdx_cons_succ, List.erase_cons, e2, h3]; rfl
theorem idxQ_not (t : T) (l : List T) (h : t ∉ l) : idxQ (fun u => decide (t = u)) l = -1 :=
  idxQ_none _ l (by rw [List.any_eq_false]; intro x hx; simp; exact fun e => h (e ▸ hx))

theorem rest1_does {I : Imm} {b : Nat} {v : Value} {t u : T} {ta : Option Addr} {tc : Nat} {X : Ent} (hv : RepT I v u) (ht : RepT I (.agg #[.int .i64 t.head, .slice ta t.args.length tc]) t) (hbu : u.size ≤ 1000000000) (hbt : t.size ≤ 1000000000) :
    Does Tryz.prog 151 [v, .pointer (some ⟨b, 0, none⟩)] I [X, .box b 48 [.int .i64 t.head, .slice ta t.args.length tc]] (fun v _ δ' => v = .bool (decide (t = u)) ∧ δ' = [X, .box b 48 [.int .i64 t.head, .slice ta t.args.length tc]]) := by
  obtain ⟨ua, uc, rfl, _⟩ := hv.shape
  refine Does.intro Tryz.func151 rfl Tryz.ntmps151 rfl fun w0 => ?_
  refine code_seq ?_
  refine code_region ?_
  refine o_box rfl rfl rfl (fun b2 => ?_)
  refine op_v (v_assign rfl) rfl ?_
  refine ops_nil ?_
  refine post_next ?_
  refine code_seq ?_
  refine code_region ?_
  refine op_v (v_load ty48 rfl (Has.there (Has.there Has.here)) rfl) rfl ?_
  refine op_v (v_load ty48 rfl Has.here rfl) rfl ?_
  refine op_call pl123 rfl rfl ((TSame_does ht hv hbt hbu)) Parts.none ?_
  rintro v6 I6 _ hI6 ⟨rfl, rfl⟩
  refine op_v (v_assign rfl) rfl ?_
  refine ops_nil ?_
  refine post_next ?_
  refine code_ret ?_
  refine post_ret (rs := [.tmp 3]) rfl (List.Perm.refl _) (.cons (.tmp rfl) .nil) (List.sublist_cons_self _ _) ?_
  exact ⟨rfl, rfl⟩
theorem rest_does {I : Imm} {va vb : Value} {a b : List T} (ha : RepS I va a) (hb : RepS I vb b) (hsa : ∀ t ∈ a, t.size ≤ 1000000000) (hsb : ∀ t ∈ b, t.size ≤ 1000000000) (hla : a.length ≤ 1000000) (hlb : b.length ≤ 1000000) :
    Does Tryz.prog 126 [va, vb] I [] (fun v I' δ' => RepS I' v (rsL a b) ∧ δ' = []) := by
  obtain ⟨ad, ac, ssa, a, hca, hba, hata, hra, hsuba0⟩ := ha
  obtain ⟨bd, bc, ssb, b, hcb, hbb, hatb, hrb, hsubb0⟩ := hb
  have hsuba : ∀ i (h : i < a.length), RepT I (.agg #[.int .i64 a[i].head, .slice (ssa i).1 a[i].args.length (ssa i).2]) a[i] := fun i hi => RepT.mk _ _ (hra i hi) (hsuba0 i hi)
  have hsubb : ∀ i (h : i < b.length), RepT I (.agg #[.int .i64 b[i].head, .slice (ssb i).1 b[i].args.length (ssb i).2]) b[i] := fun i hi => RepT.mk _ _ (hrb i hi) (hsubb0 i hi)
  obtain ⟨hcells, hrow⟩ := RowT.of hatb hsubb
  refine Does.intro Tryz.func126 rfl Tryz.ntmps126 rfl fun w0 => ?_
  refine code_seq ?_
  refine code_region ?_
  refine op_v (v_assign rfl) rfl ?_
  refine ops_nil ?_
  refine post_next ?_
  refine code_seq ?_
  refine code_region ?_
  refine op_v (v_move rfl) rfl ?_
  refine op_call pl150 rfl rfl ((Clone_does I hcells hrow.1 hrow.one1 hbb)) Parts.none ?_
  rintro v11 I11 _ hI11 ⟨la, lc, rfl, rfl⟩
  refine op_v (v_assign rfl) rfl ?_
  refine ops_nil ?_
  refine post_next ?_
  refine code_seq ?_
  refine code_region ?_
  refine op_v (v_assign rfl) rfl ?_
  refine ops_nil ?_
  refine post_next ?_
  refine code_seq ?_
  refine code_seq ?_
  refine code_region ?_
  refine op_v (v_move rfl) rfl ?_
  refine op_v (v_len Tryz.underlying46 rfl) rfl ?_
  refine op_v (v_move rfl) rfl ?_
  refine ops_nil ?_
  refine post_next ?_
  refine code_block ?_
  refine CodeJ.view (View.nilRow 48 2) ?_
  refine code_loop (fun m σ' I' δ' => ∃ (k : Nat) (L O : List T) (A B : Option Addr) (c e : Nat) (xs ys : List Value), m = a.length - k ∧ k ≤ a.length ∧ σ' = [(5, .slice A L.length c), (6, .slice B O.length e), (12, .slice ad a.length ac), (13, .int .i64 a.length), (14, .int .i64 k)] ∧ I.le I' ∧ δ' = [tRow B e O.length ys, tRow A c L.length xs] ∧ RowT I' xs L ∧ RowT I' ys O ∧ rsL a b = O ++ rsL (a.drop k) L ∧ O.length ≤ k ∧ L.length ≤ b.length ∧ (∀ t ∈ L, t ∈ b)) a.length [(5, .slice la b.length lc), (6, .slice none 0 0), (12, .slice ad a.length ac), (13, .int .i64 a.length), (14, .int .i64 (0 : Nat))] ⟨0, b, [], la, none, lc, 0, _, [], rfl, Nat.zero_le _, rfl, hI11, rfl, hrow.mono hI11, RowT.nil _, rfl, Nat.zero_le _, Nat.le_refl _, fun _ h => h⟩ ⟨rfl, rfl, rfl, rfl, rfl, trivial⟩ ?_
  rintro m _ I0 _ ⟨k, L, O, A, B, c, e, xs, ys, rfl, hk, rfl, hI0, rfl, hx, hy, hst, hO, hL, hLb⟩
  refine code_seq ?_
  refine code_region ?_
  refine op_v (v_cmp rfl rfl rfl) rfl ?_
  refine ops_nil ?_
  refine post_next ?_
  refine code_seq ?_
  refine code_cond rfl (fun hc0 => ?_) (fun hc0 => ?_)
  · have hlt : k < a.length := by simpa using hc0
    have hs1 := (hata k hlt).isSome
    have hsk := hsa _ (List.getElem_mem hlt)
    rw [List.drop_eq_getElem_cons hlt, rsL] at hst
    refine code_skip ?_
    refine post_next ?_
    refine code_seq ?_
    refine code_block ?_
    refine code_seq ?_
    refine code_region ?_
    refine op_v (v_indexA Tryz.underlying46 sz48 rfl rfl) rfl ?_
    refine op_v (v_loadI0 ty48 ((hata k hlt).mono hI0) rfl rfl rfl) rfl ?_
    refine o_alloc z48 rfl rfl (fun b8 => ?_)
    refine o_store ty48 rfl rfl rfl rfl rfl (by repeat (first | exact Swap.here | apply Swap.there)) rfl ?_
    refine ops_nil ?_
    refine post_next ?_
    refine code_seq ?_
    refine code_region ?_
    refine op_v (v_move rfl) rfl ?_
    refine op_v (v_makeFunc rfl rfl) rfl ?_
    refine op_call pl93 rfl rfl ((IdxR_does (δf := [.box b8 48 [.int .i64 a[k].head, .slice (ssa k).1 a[k].args.length (ssa k).2]]) (p := fun u => decide (a[k] = u)) hx (by omega) (fun J u t hJ hu ht => FDoes.ofFunc (caps := [_]) pl151 (rest1_does hu ((hsuba k hlt).mono (Imm.le_trans hI0 hJ)) (hsb t (hLb t ht)) hsk)))) (Parts.two (Del.there (Del.there Del.here)) Del.here) ?_
    rintro v20 I20 _ hI20 ⟨rfl, rfl⟩
    refine op_v (v_assign rfl) rfl ?_
    refine ops_nil ?_
    refine post_next ?_
    refine code_seq ?_
    refine code_seq ?_
    refine code_region ?_
    refine op_v (v_move rfl) rfl ?_
    by_cases h22 : a[k] ∈ L
    · obtain ⟨i, hi1, hi2, hi3⟩ := idxQ_erase a[k] L h22
      rw [if_pos h22, ← hi3] at hst
      rw [hi1]
      have hlen : L.length - 1 = (L.eraseIdx i).length := by rw [List.length_eraseIdx]; simp [hi2]
      refine op_v (v_cmpfA rfl rfl rfl) rfl ?_
      refine ops_nil ?_
      refine post_next ?_
      refine code_cond_f rfl ?_
      refine code_skip ?_
      refine post_next ?_
      refine code_region ?_
      refine op_v (v_move rfl) rfl ?_
      refine op_v (v_move rfl) rfl ?_
      refine op_v (v_move rfl) rfl ?_
      refine op_v (v_addb rfl rfl rfl (by omega)) rfl ?_
      refine op_call pl152 rfl rfl ((Delete_does hi2 (by omega) hx.one1)) (Parts.one Del.here) ?_
      rintro v31 I31 _ hI31 ⟨rfl, rfl⟩
      refine op_v (v_assign rfl) rfl ?_
      refine ops_nil ?_
      refine post_out ?_
      refine post_next ?_
      refine code_region ?_
      refine op_v (v_addb rfl rfl rfl (by omega)) rfl ?_
      refine op_v (v_move rfl) rfl ?_
      refine ops_nil ?_
      refine PostJ.view ((View.drop (Del.there Del.here)).trans (View.perm (List.Perm.swap _ _ _))) ?_
      refine post_again (a.length - (k + 1)) [(5, .slice A (L.length - 1) c), (6, .slice B O.length e), (12, .slice ad a.length ac), (13, .int .i64 a.length), (14, .int .i64 (k + 1 : Nat))] (by omega) ⟨k + 1, L.eraseIdx i, O, A, B, c, e, _, ys, rfl, hlt, by rw [hlen], Imm.leA, by simp only [tRow, ← hlen], (hx.mono Imm.leA).del hi2, hy.mono Imm.leA, hst, by omega, by rw [← hlen]; omega, fun t ht => hLb t (List.mem_of_mem_eraseIdx ht)⟩ ⟨rfl, rfl, rfl, rfl, rfl, trivial⟩
    · rw [if_neg h22] at hst
      rw [idxQ_not a[k] L h22]
      refine op_v (v_cmptA rfl rfl rfl) rfl ?_
      refine ops_nil ?_
      refine post_next ?_
      refine code_cond_t rfl ?_
      refine code_seq ?_
      refine code_region ?_
      refine op_v (v_move rfl) rfl ?_
      refine op_v (v_loadA ty48 rfl rfl) rfl ?_
      refine o_buildSlice (xs := [(Go.Operand.tmp 24)]) Tryz.underlying46 bs48 rfl rfl rfl rfl rfl (fun b25 => ?_)
      refine o_append Tryz.underlying46 bs48 rfl rfl rfl (fun v' => by repeat (first | exact Swap.here | apply Swap.there)) (Src.ofRow (by repeat (first | exact Has.here | apply Has.there)) rfl) (by first | rfl | omega | simp) (by simp [cat, cellsL, Value.oneCell']) (by omega) (by omega) (fun a26 c26 => ?_)
      have hl2 : O.length + 1 = (O ++ [a[k]]).length := by simp
      refine op_v (v_assign rfl) rfl ?_
      refine ops_nil ?_
      refine post_next ?_
      refine code_exit ?_
      refine post_exit_then ?_
      refine post_exit ?_
      refine post_next ?_
      refine code_region ?_
      refine op_v (v_addb rfl rfl rfl (by omega)) rfl ?_
      refine op_v (v_move rfl) rfl ?_
      refine ops_nil ?_
      refine PostJ.view ((View.drop Del.here).trans ((View.drop (Del.there Del.here)).trans (View.perm (List.Perm.swap _ _ _)))) ?_
      refine post_again (a.length - (k + 1)) [(5, .slice A L.length c), (6, .slice a26 (O.length + 1) c26), (12, .slice ad a.length ac), (13, .int .i64 a.length), (14, .int .i64 (k + 1 : Nat))] (by omega) ⟨k + 1, L, O ++ [a[k]], A, a26, c, c26, xs, ys ++ [.int .i64 a[k].head, .slice (ssa k).1 a[k].args.length (ssa k).2], rfl, hlt, by rw [hl2], Imm.leA, by simp only [tRow, ← hl2]; rfl, hx.mono Imm.leA, (hy.mono Imm.leA).app (RowT.one ((hsuba k hlt).mono Imm.leA)), by rw [hst]; simp, by rw [← hl2]; omega, hL, hLb⟩ ⟨rfl, rfl, rfl, rfl, rfl, trivial⟩
  · have hge : k = a.length := by simp at hc0; omega
    refine code_exit ?_
    refine post_exit_then ?_
    refine post_exit_then ?_
    refine post_exit ?_
    refine post_next ?_
    refine code_seq ?_
    refine code_region ?_
    refine OpsJ.freezeRow Del.here ?_
    rintro I33 A33 c33 hI33 hvr hcr hlr hcells33
    cases hvr
    rw [hge, List.drop_length] at hst
    refine op_v (v_move rfl) rfl ?_
    refine op_v (v_assign rfl) rfl ?_
    refine ops_nil ?_
    refine post_next ?_
    refine code_ret ?_
    refine post_ret (rs := [.tmp 4]) rfl (List.Perm.refl _) (.cons (.tmp rfl) .nil) (List.nil_sublist _) ?_
    exact ⟨by rw [hst]; simp only [rsL, List.append_nil]; exact RowT.repS rfl hcells33 (hy.mono hI33) hcr (by omega), rfl⟩
end Go.Proofs.YtdbadicpbmndbaaGreat
/- Walks: which row is over another one; how two rows stand. -/
set_option linter.unusedVariables false
set_option linter.unusedSimpArgs false
/- short -/
namespace Go.Proofs.YtdbadicpbmndbaaGreat
open Go Lg

abbrev OvE (ba bg : Nat) (va vg : Value) : List Ent := [.box ba 46 [va], .box bg 22 [vg]]
theorem over11_does {I : Imm} {bg bu : Nat} {v : Value} {gs : List Sy} {t u : T} {ga ua : Option Addr} {gc uc : Nat} {X : Ent} (hg : RepG I (.slice ga gs.length gc) gs) (hv : RepT I v t) (hu : RepT I (.agg #[.int .i64 u.head, .slice ua u.args.length uc]) u) (ht : OkG gs t) (hou : OkG gs u) :
    Does Tryz.prog 154 [v, .pointer (some ⟨bg, 0, none⟩), .pointer (some ⟨bu, 0, none⟩)] I [.box bu 48 [.int .i64 u.head, .slice ua u.args.length uc], X, .box bg 22 [.slice ga gs.length gc]] (fun v _ δ' => v = .bool (decide (stT gs t u = 1)) ∧ δ' = [.box bu 48 [.int .i64 u.head, .slice ua u.args.length uc], X, .box bg 22 [.slice ga gs.length gc]]) := by
  obtain ⟨ta, tc, rfl, _⟩ := hv.shape
  refine Does.intro Tryz.func154 rfl Tryz.ntmps154 rfl fun w0 => ?_
  refine code_seq ?_
  refine code_region ?_
  refine o_box rfl rfl rfl (fun b3 => ?_)
  refine op_v (v_assign rfl) rfl ?_
  refine ops_nil ?_
  refine post_next ?_
  refine code_seq ?_
  refine code_region ?_
  refine op_v (v_load ty22 rfl (Has.there (Has.there (Has.there Has.here))) rfl) rfl ?_
  refine op_v (v_load ty48 rfl Has.here rfl) rfl ?_
  refine op_v (v_load ty48 rfl (Has.there Has.here) rfl) rfl ?_
  refine op_call pl155 rfl rfl ((stand_does t.size t u (Nat.le_refl _) _ _ _ _ hg hv hu ht hou)) Parts.none ?_
  rintro v8 I8 _ hI8 ⟨rfl, rfl⟩
  refine op_v (v_cmp (z := decide (stT gs t u = 1)) rfl rfl rfl) rfl ?_
  refine op_v (v_assign rfl) rfl ?_
  refine ops_nil ?_
  refine post_next ?_
  refine code_ret ?_
  refine post_ret (rs := [.tmp 4]) rfl (List.Perm.refl _) (.cons (.tmp rfl) .nil) (List.sublist_cons_self _ _) ?_
  exact ⟨rfl, rfl⟩
theorem over1_does {I : Imm} {ba bg : Nat} {v va : Value} {gs : List Sy} {a : List T} {u : T} {ga : Option Addr} {gc : Nat} (hg : RepG I (.slice ga gs.length gc) gs) (ha : RepS I va a) (hv : RepT I v u) (hoa : ∀ t ∈ a, OkG gs t) (hou : OkG gs u) :
    Does Tryz.prog 153 [v, .pointer (some ⟨ba, 0, none⟩), .pointer (some ⟨bg, 0, none⟩)] I (OvE ba bg va (.slice ga gs.length gc)) (fun v _ δ' => v = .bool (a.any fun t => decide (stT gs t u = 1)) ∧ δ' = OvE ba bg va (.slice ga gs.length gc)) := by
  obtain ⟨ua, uc, rfl, _⟩ := hv.shape
  obtain ⟨aa, ac, rfl⟩ := ha.shape
  refine Does.intro Tryz.func153 rfl Tryz.ntmps153 rfl fun w0 => ?_
  refine code_seq ?_
  refine code_region ?_
  refine o_box rfl rfl rfl (fun b3 => ?_)
  refine op_v (v_assign rfl) rfl ?_
  refine ops_nil ?_
  refine post_next ?_
  refine code_seq ?_
  refine code_region ?_
  refine op_v (v_loadA ty46 rfl rfl) rfl ?_
  refine op_v (v_makeFunc rfl rfl) rfl ?_
  refine op_call pl47 rfl rfl ((ContT_does (p := fun t => decide (stT gs t u = 1)) ha (fun J x t hJ hx ht => FDoes.ofFunc (caps := [_, _]) pl154 (over11_does (hg.mono hJ) hx (hv.mono hJ) (hoa t ht) hou)))) Parts.all ?_
  rintro v7 I7 _ hI7 ⟨rfl, rfl⟩
  rw [List.append_nil]
  refine op_v (v_assign rfl) rfl ?_
  refine ops_nil ?_
  refine post_next ?_
  refine code_ret ?_
  refine post_ret (rs := [.tmp 4]) rfl (List.Perm.refl _) (.cons (.tmp rfl) .nil) (List.sublist_cons_self _ _) ?_
  exact ⟨rfl, rfl⟩
theorem over2_does {I : Imm} {bf ba bg : Nat} {v va : Value} {gs : List Sy} {a : List T} {u : T} {ga : Option Addr} {gc : Nat} (hg : RepG I (.slice ga gs.length gc) gs) (ha : RepS I va a) (hv : RepT I v u) (hoa : ∀ t ∈ a, OkG gs t) (hou : OkG gs u) :
    Does Tryz.prog 156 [v, .pointer (some ⟨bf, 0, none⟩)] I (.box bf 73 [.func (.func 153) #[] #[.pointer (some ⟨ba, 0, none⟩), .pointer (some ⟨bg, 0, none⟩)]] :: OvE ba bg va (.slice ga gs.length gc)) (fun v _ δ' => v = .bool (!(a.any fun t => decide (stT gs t u = 1))) ∧ δ' = .box bf 73 [.func (.func 153) #[] #[.pointer (some ⟨ba, 0, none⟩), .pointer (some ⟨bg, 0, none⟩)]] :: OvE ba bg va (.slice ga gs.length gc)) := by
  obtain ⟨ua, uc, rfl, _⟩ := hv.shape
  refine Does.intro Tryz.func156 rfl Tryz.ntmps156 rfl fun w0 => ?_
  refine code_seq ?_
  refine code_region ?_
  refine o_box rfl rfl rfl (fun b2 => ?_)
  refine op_v (v_assign rfl) rfl ?_
  refine ops_nil ?_
  refine post_next ?_
  refine code_seq ?_
  refine code_region ?_
  refine op_v (v_load ty73 rfl (Has.there Has.here) rfl) rfl ?_
  refine op_v (v_load ty48 rfl Has.here rfl) rfl ?_
  refine op_fcall rfl rfl rfl ((FDoes.ofFunc (caps := [_, _]) pl153 (over1_does hg ha hv hoa hou))) (List.perm_append_comm (l₁ := [_, _])) ?_
  rintro v6 I6 _ hI6 ⟨rfl, rfl⟩
  refine OpsJ.view (View.perm (List.perm_append_comm (l₂ := [_, _]))) ?_
  refine op_v (v_not rfl) rfl ?_
  refine op_v (v_assign rfl) rfl ?_
  refine ops_nil ?_
  refine post_next ?_
  refine code_ret ?_
  refine post_ret (rs := [.tmp 3]) rfl (List.Perm.refl _) (.cons (.tmp rfl) .nil) (List.sublist_cons_self _ _) ?_
  exact ⟨rfl, rfl⟩
theorem over_does {I : Imm} {vg va vb : Value} {gs : List Sy} {a b : List T} (hg : RepG I vg gs) (ha : RepS I va a) (hb : RepS I vb b) (hoa : ∀ t ∈ a, OkG gs t) (hob : ∀ t ∈ b, OkG gs t) :
    Does Tryz.prog 127 [vg, va, vb] I [] (fun v _ δ' => v = .bool (overL gs a b) ∧ δ' = []) := by
  obtain ⟨ga, gc, rfl⟩ := hg.shape
  obtain ⟨aa, ac, rfl⟩ := ha.shape
  have hall : (b.all fun u => a.any fun t => decide (stT gs t u = 1)) = !(b.any fun u => !(a.any fun t => decide (stT gs t u = 1))) := by
    rw [List.not_any_eq_all_not]; simp
  refine Does.intro Tryz.func127 rfl Tryz.ntmps127 rfl fun w0 => ?_
  refine code_seq ?_
  refine code_region ?_
  refine o_box rfl rfl rfl (fun b3 => ?_)
  refine o_box rfl rfl rfl (fun b4 => ?_)
  refine op_v (v_assign rfl) rfl ?_
  refine ops_nil ?_
  refine post_next ?_
  refine code_seq ?_
  refine code_region ?_
  refine op_v (v_makeFunc rfl rfl) rfl ?_
  refine o_alloc z73 rfl rfl (fun b7 => ?_)
  refine o_store ty73 rfl rfl rfl rfl rfl (by repeat (first | exact Swap.here | apply Swap.there)) rfl ?_
  refine ops_nil ?_
  refine post_next ?_
  refine code_seq ?_
  refine code_region ?_
  refine op_v (v_loadA ty46 rfl rfl) rfl ?_
  refine op_v (v_len Tryz.underlying46 rfl) rfl ?_
  by_cases h11 : 0 < a.length
  · refine op_v (v_cmptA rfl rfl rfl) rfl ?_
    refine op_v (v_move rfl) rfl ?_
    refine op_want rfl rfl ?_
    refine op_v (v_move rfl) rfl ?_
    refine op_want rfl rfl ?_
    refine op_v (v_makeFunc rfl rfl) rfl ?_
    refine op_want rfl rfl ?_
    refine op_call pl47 rfl rfl ((ContT_does (p := fun u => !(a.any fun t => decide (stT gs t u = 1))) hb (fun J x u hJ hx hu => FDoes.ofFunc (caps := [_]) pl156 (over2_does (hg.mono hJ) (ha.mono hJ) hx hoa (hob u hu))))) Parts.all ?_
    rintro v15 I15 _ hI15 ⟨rfl, rfl⟩
    rw [List.append_nil]
    refine op_want rfl rfl ?_
    refine op_v (v_not rfl) rfl ?_
    refine op_v (v_pickt rfl rfl) rfl ?_
    refine op_v (v_assign rfl) rfl ?_
    refine ops_nil ?_
    refine post_next ?_
    refine code_ret ?_
    refine post_ret (rs := [.tmp 6]) rfl (List.Perm.refl _) (.cons (.tmp rfl) .nil) (List.nil_sublist _) ?_
    exact ⟨by simp only [outV, overL, hall, h11, decide_true, Bool.true_and], rfl⟩
  · refine op_v (v_cmpfA rfl rfl rfl) rfl ?_
    refine op_v (v_move rfl) rfl ?_
    refine op_skip rfl rfl (by simp [undef]) rfl ?_
    refine op_skip rfl rfl (by simp [undef]) rfl ?_
    refine op_skip rfl rfl (by simp [undef]) rfl ?_
    refine op_skip rfl rfl (by simp [undef]) rfl ?_
    refine op_v (v_pickf rfl rfl) rfl ?_
    refine op_v (v_assign rfl) rfl ?_
    refine ops_nil ?_
    refine post_next ?_
    refine code_ret ?_
    refine post_ret (rs := [.tmp 6]) rfl (List.Perm.refl _) (.cons (.tmp rfl) .nil) (List.nil_sublist _) ?_
    exact ⟨by simp [outV, overL, h11], rfl⟩

theorem Grow_does {I : Imm} {n : Nat} (hn : n ≤ 4000000000000) :
    Does Tryz.prog 149 [.slice none 0 0, .int .i64 n] I [] (fun v _ δ' => ∃ A c, v = .slice A 0 c ∧ δ' = [tRow A c 0 []]) := by
  refine Does.intro Tryz.func149 rfl Tryz.ntmps149 rfl fun w0 => ?_
  refine code_seq ?_
  refine code_region ?_
  refine op_v (v_assign rfl) rfl ?_
  refine ops_nil ?_
  refine post_next ?_
  refine code_seq ?_
  refine code_seq ?_
  refine code_region ?_
  refine op_v (v_move rfl) rfl ?_
  refine op_v (v_cmpf rfl rfl rfl (by omega)) rfl ?_
  refine ops_nil ?_
  refine post_next ?_
  refine code_cond_f rfl ?_
  refine code_skip ?_
  refine post_next ?_
  refine code_seq ?_
  refine code_seq ?_
  refine code_region ?_
  refine op_v (v_move rfl) rfl ?_
  refine op_v (v_move rfl) rfl ?_
  refine op_v (v_cap Tryz.underlying46 rfl) rfl ?_
  refine op_v (v_move rfl) rfl ?_
  refine op_v (v_len Tryz.underlying46 rfl) rfl ?_
  refine op_v (v_subb rfl rfl rfl (by omega)) rfl ?_
  refine op_v (v_subb (c := (n : Int)) rfl rfl (by omega) ⟨by omega, by omega⟩) rfl ?_
  refine op_v (v_assign rfl) rfl ?_
  refine ops_nil ?_
  refine post_next ?_
  refine code_seq ?_
  refine code_region ?_
  refine op_v (v_move rfl) rfl ?_
  by_cases h16 : 0 < n
  · refine op_v (v_cmptA rfl rfl rfl) rfl ?_
    refine ops_nil ?_
    refine post_next ?_
    refine code_cond_t rfl ?_
    refine code_region ?_
    refine op_v (v_move rfl) rfl ?_
    refine op_v (v_move rfl) rfl ?_
    refine op_v (v_cap Tryz.underlying46 rfl) rfl ?_
    refine op_v (v_sliceTo (h := 0) Tryz.underlying46 sz48 rfl rfl (by omega)) rfl ?_
    refine op_v (v_move rfl) rfl ?_
    refine o_appendMake Tryz.underlying46 Tryz.underlying3 bs48 (by rfl) rfl rfl rfl h16 (by omega) (by omega) (by omega) (by omega) (fun g22 c22 hc22 => ?_)
    refine op_v (v_move rfl) rfl ?_
    refine op_v (v_len Tryz.underlying46 rfl) rfl ?_
    refine op_v (v_sliceTo (h := 0) Tryz.underlying46 sz48 rfl rfl (by omega)) rfl ?_
    refine op_v (v_assign rfl) rfl ?_
    refine ops_nil ?_
    refine post_next ?_
    refine code_seq ?_
    refine code_region ?_
    refine op_v (v_move rfl) rfl ?_
    refine op_v (v_assign rfl) rfl ?_
    refine ops_nil ?_
    refine post_next ?_
    refine code_ret ?_
    refine post_ret (rs := [.tmp 4]) rfl (List.Perm.refl _) (.cons (.tmp rfl) .nil) (List.Sublist.refl _) ?_
    exact ⟨_, _, rfl, rfl⟩
  · refine op_v (v_cmpfA rfl rfl rfl) rfl ?_
    refine ops_nil ?_
    refine post_next ?_
    refine code_cond_f rfl ?_
    refine code_skip ?_
    refine post_next ?_
    refine code_seq ?_
    refine code_region ?_
    refine op_v (v_move rfl) rfl ?_
    refine op_v (v_assign rfl) rfl ?_
    refine ops_nil ?_
    refine post_next ?_
    refine code_ret ?_
    refine PostJ.view (View.nilRow 48 2) (post_ret (rs := [.tmp 4]) rfl (List.Perm.refl _) (.cons (.tmp rfl) .nil) (List.Sublist.refl _) ⟨none, 0, rfl, rfl⟩)
theorem Concat_does {I : Imm} {ad : Option Addr} {c : Nat} {va vb : Value} {a b : List T} (hcells : Cells I ad [va, vb]) (ha : RepS I va a) (hb : RepS I vb b) (hla : a.length ≤ 1000000) (hlb : b.length ≤ 1000000) :
    Does Tryz.prog 125 [.slice ad 2 c] I [] (fun v I' δ' => RepS I' v (a ++ b) ∧ δ' = []) := by
  have has : ad.isSome = true := by
    have := hcells 0 va rfl
    cases ad with
    | none => simp [Imm.cellO] at this
    | some x => rfl
  have hel : ∀ k, k < 2 → ∃ (A : Option Addr) (e : Nat) (L : List T) (xs : List Value), At I ad (k * 1) [.slice A L.length e] ∧ Cells I A xs ∧ RowT I xs L ∧ L.length ≤ 1000000 ∧ ∀ (l : List T), l = (if k = 0 then [] else a) → l ++ L = (if k = 0 then a else a ++ b) := by
    intro k hk
    have key : ∀ (v : Value) (L : List T), RepS I v L → L.length ≤ 1000000 → At I ad (k * 1) [v] → (∀ (l : List T), l = (if k = 0 then [] else a) → l ++ L = (if k = 0 then a else a ++ b)) → ∃ (A : Option Addr) (e : Nat) (L : List T) (xs : List Value), At I ad (k * 1) [.slice A L.length e] ∧ Cells I A xs ∧ RowT I xs L ∧ L.length ≤ 1000000 ∧ ∀ (l : List T), l = (if k = 0 then [] else a) → l ++ L = (if k = 0 then a else a ++ b) := by
      intro v L hv hl hat hq
      obtain ⟨A, e, ss, L, hc, hb, hat2, hr, hsub0⟩ := hv
      obtain ⟨h1, h2⟩ := RowT.of hat2 (fun i hi => RepT.mk _ _ (hr i hi) (hsub0 i hi))
      exact ⟨A, e, L, _, hat, h1, h2, hl, hq⟩
    have hat : ∀ (v : Value), [va, vb][k]? = some v → At I ad (k * 1) [v] := fun v hv => hcells.at _ fun j u hj => by
      rcases j with _ | j
      · simp at hj; subst hj; rw [Nat.mul_one, Nat.add_zero]; exact hv
      · simp at hj
    rcases (show k = 0 ∨ k = 1 by omega) with rfl | rfl
    · exact key va a ha hla (hat va rfl) (fun l hl => by simp at hl; subst hl; simp)
    · exact key vb b hb hlb (hat vb rfl) (fun l hl => by simp at hl; subst hl; simp)
  refine Does.intro Tryz.func125 rfl Tryz.ntmps125 rfl fun w0 => ?_
  refine code_seq ?_
  refine code_region ?_
  refine op_v (v_assign rfl) rfl ?_
  refine ops_nil ?_
  refine post_next ?_
  refine code_seq ?_
  refine code_region ?_
  refine op_v (v_assign rfl) rfl ?_
  refine ops_nil ?_
  refine post_next ?_
  refine code_seq ?_
  refine code_seq ?_
  refine code_region ?_
  refine op_v (v_move rfl) rfl ?_
  refine op_v (v_len Tryz.underlying152 rfl) rfl ?_
  refine op_v (v_move rfl) rfl ?_
  refine ops_nil ?_
  refine post_next ?_
  refine code_block ?_
  refine code_loop (fun m σ' I' δ' => ∃ k n : Nat, m = 2 - k ∧ k ≤ 2 ∧ σ' = [(0, .slice ad 2 c), (3, .int .i64 n), (9, .slice ad 2 c), (10, .int .i64 2), (11, .int .i64 k)] ∧ I = I' ∧ δ' = [] ∧ n ≤ k * 1000000) 2 [(0, .slice ad 2 c), (3, .int .i64 (0 : Nat)), (9, .slice ad 2 c), (10, .int .i64 2), (11, .int .i64 (0 : Nat))] ⟨0, 0, rfl, by omega, rfl, rfl, rfl, by omega⟩ ⟨rfl, rfl, rfl, rfl, rfl, trivial⟩ ?_
  rintro m _ _ _ ⟨k, n, rfl, hk, rfl, rfl, rfl, hn⟩
  refine code_seq ?_
  refine code_region ?_
  refine op_v (v_cmp rfl rfl rfl) rfl ?_
  refine ops_nil ?_
  refine post_next ?_
  refine code_seq ?_
  refine code_cond rfl (fun hc0 => ?_) (fun hc0 => ?_)
  · have hlt : k < 2 := by have h := hc0; simp at h; omega
    obtain ⟨A, e, L, xs, hat, hcx, hrx, hll, _⟩ := hel k hlt
    refine code_skip ?_
    refine post_next ?_
    refine code_seq ?_
    refine code_block ?_
    refine code_seq ?_
    refine code_region ?_
    refine op_v (v_indexA Tryz.underlying152 sz46 rfl rfl) rfl ?_
    refine op_v (v_loadI0 ty46 (hat) rfl rfl rfl) rfl ?_
    refine op_v (v_assign rfl) rfl ?_
    refine ops_nil ?_
    refine post_next ?_
    refine code_seq ?_
    refine code_region ?_
    refine op_v (v_move rfl) rfl ?_
    refine op_v (v_move rfl) rfl ?_
    refine op_v (v_len Tryz.underlying46 rfl) rfl ?_
    refine op_v (v_addb rfl rfl rfl (by omega)) rfl ?_
    refine op_v (v_assign rfl) rfl ?_
    refine ops_nil ?_
    refine post_next ?_
    refine code_seq ?_
    refine code_region ?_
    refine op_v (v_move rfl) rfl ?_
    refine op_v (v_cmpf rfl rfl rfl (by omega)) rfl ?_
    refine ops_nil ?_
    refine post_next ?_
    refine code_cond_f rfl ?_
    refine code_skip ?_
    refine post_out ?_
    refine post_next ?_
    refine code_region ?_
    refine op_v (v_addb rfl rfl rfl (by omega)) rfl ?_
    refine op_v (v_move rfl) rfl ?_
    refine ops_nil ?_
    refine post_again (2 - (k + 1)) [(0, .slice ad 2 c), (3, .int .i64 ((n : Int) + (L.length : Int))), (9, .slice ad 2 c), (10, .int .i64 2), (11, .int .i64 (k + 1 : Nat))] (by omega) ⟨k + 1, n + L.length, rfl, hlt, by rw [show ((n + L.length : Nat) : Int) = (n : Int) + (L.length : Int) from Int.natCast_add _ _], rfl, rfl, by omega⟩ ⟨rfl, rfl, rfl, rfl, rfl, trivial⟩
  · refine code_exit ?_
    refine post_exit_then ?_
    refine post_exit_then ?_
    refine post_exit ?_
    refine post_next ?_
    refine code_seq ?_
    refine code_region ?_
    refine op_v (v_move rfl) rfl ?_
    refine op_call pl149 rfl rfl ((Grow_does (n := n) (by omega))) Parts.none ?_
    rintro v24 I24 _ hI24 ⟨A24, c24, rfl, rfl⟩
    refine op_v (v_assign rfl) rfl ?_
    refine ops_nil ?_
    refine post_next ?_
    refine code_seq ?_
    refine code_seq ?_
    refine code_region ?_
    refine op_v (v_move rfl) rfl ?_
    refine op_v (v_len Tryz.underlying152 rfl) rfl ?_
    refine op_v (v_move rfl) rfl ?_
    refine ops_nil ?_
    refine post_next ?_
    refine code_block ?_
    refine code_loop (fun m σ' I' δ' => ∃ (k : Nat) (A : Option Addr) (e : Nat) (L : List T) (xs : List Value), m = 2 - k ∧ k ≤ 2 ∧ σ' = [(6, .slice A L.length e), (25, .slice ad 2 c), (26, .int .i64 2), (27, .int .i64 k)] ∧ I.le I' ∧ δ' = [tRow A e L.length xs] ∧ RowT I' xs L ∧ L = (if k = 0 then [] else if k = 1 then a else a ++ b) ∧ L.length ≤ k * 1000000) 2 [(6, .slice A24 0 c24), (25, .slice ad 2 c), (26, .int .i64 2), (27, .int .i64 (0 : Nat))] ⟨0, A24, c24, [], [], rfl, by omega, rfl, hI24, rfl, RowT.nil _, rfl, by simp⟩ ⟨rfl, rfl, rfl, rfl, trivial⟩ ?_
    rintro m _ I0 _ ⟨k, A, e, L, xs, rfl, hk, rfl, hI0, rfl, hx, hL, hll⟩
    refine code_seq ?_
    refine code_region ?_
    refine op_v (v_cmp rfl rfl rfl) rfl ?_
    refine ops_nil ?_
    refine post_next ?_
    refine code_seq ?_
    refine code_cond rfl (fun hc2 => ?_) (fun hc2 => ?_)
    · have hlt : k < 2 := by have h := hc2; simp at h; omega
      obtain ⟨A2, e2, L2, xs2, hat, hcx, hrx, hll2, hq⟩ := hel k hlt
      have hLe : L = (if k = 0 then [] else a) := by rw [hL]; rcases (show k = 0 ∨ k = 1 by omega) with rfl | rfl <;> simp
      have hq2 := hq L hLe
      refine code_skip ?_
      refine post_next ?_
      refine code_seq ?_
      refine code_block ?_
      refine code_seq ?_
      refine code_region ?_
      refine op_v (v_indexA Tryz.underlying152 sz46 rfl rfl) rfl ?_
      refine op_v (v_loadI0 ty46 (hat.mono hI0) rfl rfl rfl) rfl ?_
      refine op_v (v_assign rfl) rfl ?_
      refine ops_nil ?_
      refine post_next ?_
      refine code_region ?_
      refine op_v (v_move rfl) rfl ?_
      refine op_v (v_move rfl) rfl ?_
      refine o_append Tryz.underlying46 bs48 rfl rfl rfl (fun v' => by repeat (first | exact Swap.here | apply Swap.there)) (Src.ofI (hcx.mono hI0)) hrx.1 hrx.one1 (by omega) (by omega) (fun a33 c33 => ?_)
      have hl3 : L.length + L2.length = (L ++ L2).length := by simp
      refine op_v (v_assign rfl) rfl ?_
      refine ops_nil ?_
      refine post_out ?_
      refine post_next ?_
      refine code_region ?_
      refine op_v (v_addb rfl rfl rfl (by omega)) rfl ?_
      refine op_v (v_move rfl) rfl ?_
      refine ops_nil ?_
      refine post_again (2 - (k + 1)) [(6, .slice a33 (L.length + L2.length) c33), (25, .slice ad 2 c), (26, .int .i64 2), (27, .int .i64 (k + 1 : Nat))] (by omega) ⟨k + 1, a33, c33, L ++ L2, xs ++ xs2, rfl, hlt, by rw [hl3], Imm.leA, by simp only [tRow, ← hl3], hx.app (hrx.mono hI0), by rw [hq2]; rcases (show k = 0 ∨ k = 1 by omega) with rfl | rfl <;> simp, by rw [← hl3]; omega⟩ ⟨rfl, rfl, rfl, rfl, trivial⟩
    · refine code_exit ?_
      refine post_exit_then ?_
      refine post_exit_then ?_
      refine post_exit ?_
      refine post_next ?_
      refine code_seq ?_
      refine code_region ?_
      refine OpsJ.freezeRow Del.here ?_
      rintro I35 A35 c35 hI35 hvr hcr hlr hcells35
      cases hvr
      have hk2 : ¬ k < 2 := by have h := hc2; simp at h; omega
      have hLab : L = a ++ b := by rw [hL]; rw [show k = 2 by omega]; rfl
      refine op_v (v_move rfl) rfl ?_
      refine op_v (v_assign rfl) rfl ?_
      refine ops_nil ?_
      refine post_next ?_
      refine code_ret ?_
      refine post_ret (rs := [.tmp 2]) rfl (List.Perm.refl _) (.cons (.tmp rfl) .nil) (List.nil_sublist _) ?_
      exact ⟨by rw [← hLab]; exact RowT.repS rfl hcells35 (hx.mono hI35) hcr (by omega), rfl⟩
theorem Multi_does {I : Imm} {vg va vb : Value} {gs : List Sy} {a b : List T} (hg : RepG I vg gs) (ha : RepS I va a) (hb : RepS I vb b) (hsa : ∀ t ∈ a, t.size ≤ 1000000000) (hsb : ∀ t ∈ b, t.size ≤ 1000000000) (hla : a.length ≤ 1000000) (hlb : b.length ≤ 1000000) :
    Does Tryz.prog 84 [vg, va, vb] I [] (fun v _ δ' => v = .tuple #[.int .i64 (if wrongG gs (a ++ b) = 0 then mulG gs a b else 0), .int .i64 (wrongG gs (a ++ b))] ∧ δ' = []) := by
  obtain ⟨aa, ac, rfl⟩ := ha.shape
  obtain ⟨ba, bc, rfl⟩ := hb.shape
  have hl1 := rsL_len a b
  have hl2 := rsL_len b a
  refine Does.intro Tryz.func84 rfl Tryz.ntmps84 rfl fun w0 => ?_
  refine code_seq ?_
  refine code_region ?_
  refine op_v (v_assign rfl) rfl ?_
  refine op_v (v_assign rfl) rfl ?_
  refine ops_nil ?_
  refine post_next ?_
  refine code_seq ?_
  refine code_seq ?_
  refine code_region ?_
  refine op_v (v_move rfl) rfl ?_
  refine op_v (v_move rfl) rfl ?_
  refine op_v (v_move rfl) rfl ?_
  refine o_buildSlice (xs := [(Go.Operand.tmp 12), (Go.Operand.tmp 13)]) Tryz.underlying152 bs46 rfl rfl rfl rfl rfl (fun b14 => ?_)
  refine OpsJ.freezeRow Del.here ?_
  rintro I14 a14 c14 hI14 hq hc14 hl14 hcells14
  cases hq
  refine op_call pl125 rfl rfl ((Concat_does hcells14 (ha.mono hI14) (hb.mono hI14) hla hlb)) Parts.none ?_
  rintro v15 I15 _ hI15 ⟨hv15, rfl⟩
  refine op_call pl124 rfl rfl ((wrong_does (hg.mono Imm.leA) hv15 (fun t ht => by rcases List.mem_append.1 ht with h | h; exact hsa t h; exact hsb t h))) Parts.none ?_
  rintro v16 I16 _ hI16 ⟨rfl, rfl⟩
  refine op_v (v_assign rfl) rfl ?_
  refine ops_nil ?_
  refine post_next ?_
  refine code_seq ?_
  refine code_region ?_
  refine op_v (v_move rfl) rfl ?_
  by_cases h18 : wrongG gs (a ++ b) ≠ 0
  · refine op_v (v_cmptA rfl rfl rfl) rfl ?_
    refine ops_nil ?_
    refine post_next ?_
    refine code_cond_t rfl ?_
    refine code_seq ?_
    refine code_region ?_
    refine op_v (v_move rfl) rfl ?_
    refine op_v (v_assign rfl) rfl ?_
    refine op_v (v_assign rfl) rfl ?_
    refine ops_nil ?_
    refine post_next ?_
    refine code_ret ?_
    refine post_ret_then ?_
    refine post_ret (rs := [.tmp 6, .tmp 7]) rfl (List.Perm.refl _) (.cons (.tmp rfl) (.cons (.tmp rfl) .nil)) (List.nil_sublist _) ?_
    exact ⟨by rw [if_neg h18]; rfl, rfl⟩
  · have h0 : wrongG gs (a ++ b) = 0 := by omega
    have hall := wrongG_ok.1 h0
    have hoa : ∀ t ∈ a, OkG gs t := fun t ht => hall t (List.mem_append_left _ ht)
    have hob : ∀ t ∈ b, OkG gs t := fun t ht => hall t (List.mem_append_right _ ht)
    refine op_v (v_cmpfA rfl rfl rfl) rfl ?_
    refine ops_nil ?_
    refine post_next ?_
    refine code_cond_f rfl ?_
    refine code_skip ?_
    refine post_next ?_
    refine code_seq ?_
    refine code_region ?_
    refine op_v (v_move rfl) rfl ?_
    refine op_v (v_move rfl) rfl ?_
    refine op_call pl126 rfl rfl ((rest_does (ha.mono Imm.leA) (hb.mono Imm.leA) hsa hsb hla hlb)) Parts.none ?_
    rintro v22 I22 _ hI22 ⟨hv22, rfl⟩
    obtain ⟨xa, xc, rfl⟩ := hv22.shape
    refine op_v (v_move rfl) rfl ?_
    refine op_v (v_move rfl) rfl ?_
    refine op_call pl126 rfl rfl ((rest_does (hb.mono Imm.leA) (ha.mono Imm.leA) hsb hsa hlb hla)) Parts.none ?_
    rintro v25 I25 _ hI25 ⟨hv25, rfl⟩
    obtain ⟨ya, yc, rfl⟩ := hv25.shape
    refine op_v (v_assign rfl) rfl ?_
    refine op_v (v_assign rfl) rfl ?_
    refine ops_nil ?_
    refine post_next ?_
    refine code_seq ?_
    refine code_block ?_
    refine code_seq ?_
    refine code_region ?_
    refine op_v (v_move rfl) rfl ?_
    refine op_v (v_len Tryz.underlying46 rfl) rfl ?_
    refine op_v (v_move rfl) rfl ?_
    refine op_v (v_len Tryz.underlying46 rfl) rfl ?_
    refine op_v (v_addb rfl rfl rfl (by omega)) rfl ?_
    by_cases h32 : (rsL a b).length + (rsL b a).length = 0
    · refine op_v (v_cmptA rfl rfl rfl) rfl ?_
      refine op_v (v_assign rfl) rfl ?_
      refine ops_nil ?_
      refine post_next ?_
      refine code_cond_t rfl ?_
      refine code_seq ?_
      refine code_region ?_
      refine op_v (v_assign rfl) rfl ?_
      refine op_v (v_assign rfl) rfl ?_
      refine ops_nil ?_
      refine post_next ?_
      refine code_ret ?_
      refine post_ret_block ?_
      refine post_ret_then ?_
      refine post_ret (rs := [.tmp 6, .tmp 7]) rfl (List.Perm.refl _) (.cons (.tmp rfl) (.cons (.tmp rfl) .nil)) (List.nil_sublist _) ?_
      exact ⟨by rw [if_pos h0, h0]; simp only [outV, mulG]; rw [if_pos h32], rfl⟩
    · refine op_v (v_cmpfA rfl rfl rfl) rfl ?_
      refine op_v (v_assign rfl) rfl ?_
      refine ops_nil ?_
      refine post_next ?_
      refine code_cond_f rfl ?_
      refine code_seq ?_
      refine code_region ?_
      refine op_v (v_move rfl) rfl ?_
      refine op_v (v_move rfl) rfl ?_
      refine op_v (v_move rfl) rfl ?_
      refine op_call pl127 rfl rfl ((over_does (hg.mono Imm.leA) (hv22.mono Imm.leA) (hv25.mono Imm.leA) (fun t ht => hoa t (rsL_mem ht)) (fun t ht => hob t (rsL_mem ht)))) Parts.none ?_
      rintro v37 I37 _ hI37 ⟨rfl, rfl⟩
      refine op_v (v_assign rfl) rfl ?_
      refine ops_nil ?_
      refine post_next ?_
      refine code_cond rfl (fun hc2 => ?_) (fun hc2 => ?_)
      · have h37 : overL gs (rsL a b) (rsL b a) = true := hc2
        refine code_seq ?_
        refine code_region ?_
        refine op_v (v_assign rfl) rfl ?_
        refine op_v (v_assign rfl) rfl ?_
        refine ops_nil ?_
        refine post_next ?_
        refine code_ret ?_
        refine post_ret_block ?_
        refine post_ret_then ?_
        refine post_ret (rs := [.tmp 6, .tmp 7]) rfl (List.Perm.refl _) (.cons (.tmp rfl) (.cons (.tmp rfl) .nil)) (List.nil_sublist _) ?_
        exact ⟨by rw [if_pos h0, h0]; simp only [outV, mulG]; rw [if_neg h32, if_pos h37], rfl⟩
      · have h37 : ¬ overL gs (rsL a b) (rsL b a) = true := by rw [hc2]; simp
        refine code_seq ?_
        refine code_region ?_
        refine op_v (v_move rfl) rfl ?_
        refine op_v (v_move rfl) rfl ?_
        refine op_v (v_move rfl) rfl ?_
        refine op_call pl127 rfl rfl ((over_does (hg.mono Imm.leA) (hv25.mono Imm.leA) (hv22.mono Imm.leA) (fun t ht => hob t (rsL_mem ht)) (fun t ht => hoa t (rsL_mem ht)))) Parts.none ?_
        rintro v42 I42 _ hI42 ⟨rfl, rfl⟩
        refine op_v (v_assign rfl) rfl ?_
        refine ops_nil ?_
        refine post_next ?_
        refine code_cond rfl (fun hc3 => ?_) (fun hc3 => ?_)
        · have h42 : overL gs (rsL b a) (rsL a b) = true := hc3
          refine code_seq ?_
          refine code_region ?_
          refine op_v (v_assign rfl) rfl ?_
          refine op_v (v_assign rfl) rfl ?_
          refine ops_nil ?_
          refine post_next ?_
          refine code_ret ?_
          refine post_ret_block ?_
          refine post_ret_then ?_
          refine post_ret (rs := [.tmp 6, .tmp 7]) rfl (List.Perm.refl _) (.cons (.tmp rfl) (.cons (.tmp rfl) .nil)) (List.nil_sublist _) ?_
          exact ⟨by rw [if_pos h0, h0]; simp only [outV, mulG]; rw [if_neg h32, if_neg h37, if_pos h42], rfl⟩
        · have h42 : ¬ overL gs (rsL b a) (rsL a b) = true := by rw [hc3]; simp
          refine code_skip ?_
          refine post_out ?_
          refine post_next ?_
          refine code_seq ?_
          refine code_region ?_
          refine op_v (v_assign rfl) rfl ?_
          refine op_v (v_assign rfl) rfl ?_
          refine ops_nil ?_
          refine post_next ?_
          refine code_ret ?_
          refine post_ret (rs := [.tmp 6, .tmp 7]) rfl (List.Perm.refl _) (.cons (.tmp rfl) (.cons (.tmp rfl) .nil)) (List.nil_sublist _) ?_
          exact ⟨by rw [if_pos h0, h0]; simp only [outV, mulG]; rw [if_neg h32, if_neg h37, if_neg h42], rfl⟩
end Go.Proofs.YtdbadicpbmndbaaGreat
/- The rules of the logic: pointers against nil, division, entries that are taken out of a map. No condition. -/
set_option linter.unusedVariables false
set_option linter.unusedSimpArgs false
namespace Go.Proofs.YtdbadicpbmndbaaGreat.Lg
open Go Go.RowKit

variable {C : Ctx} {Q : Exit → Act → World → Prop} {σ : Env} {ds : List Nat} {I : Imm} {δ : List Ent} {ops : Array Oper} {rest : List Oper}
variable {d : Nat} {ty : TypeId} {pos : String} {after : Array Edge}

/-! ### acts that leave all that some floats of a region look at -/
end Go.Proofs.YtdbadicpbmndbaaGreat.Lg
/- Rows of things of one kind, in memory. Plain definitions and theorems; no condition. -/
set_option linter.unusedVariables false
set_option linter.unusedSimpArgs false
namespace Go.Proofs.YtdbadicpbmndbaaGreat
open Go Lg

/-- how one thing lies in so many cells -/
structure Elt (n : Nat) (α : Type) where
  R : Imm → α → List Value → Prop
  len : ∀ {I : Imm} {a : α} {vs : List Value}, R I a vs → vs.length = n
  one : ∀ {I : Imm} {a : α} {vs : List Value}, R I a vs → ∀ u ∈ vs, u.oneCell' = true
  mono : ∀ {I J : Imm} {a : α} {vs : List Value}, I.le J → R I a vs → R J a vs
section
variable {n : Nat} {α : Type} {E : Elt n α} {I J : Imm}
def RowE (E : Elt n α) (I : Imm) : List Value → List α → Prop
  | xs, [] => xs = []
  | xs, a :: al => ∃ vs ys, xs = vs ++ ys ∧ E.R I a vs ∧ RowE E I ys al
theorem RowE.nil : RowE E I [] [] := rfl
theorem RowE.length : ∀ {al : List α} {xs : List Value}, RowE E I xs al → xs.length = al.length * n
  | [], xs, h => by have : xs = [] := h; simp [this]
  | a :: al, xs, h => by
    obtain ⟨vs, ys, rfl, h1, h2⟩ := h
    have := E.len h1
    have := RowE.length h2
    rw [List.length_append, List.length_cons, Nat.succ_mul]; omega
theorem RowE.one1 : ∀ {al : List α} {xs : List Value}, RowE E I xs al → ∀ u ∈ xs, u.oneCell' = true
  | [], xs, h => by have : xs = [] := h; simp [this]
  | a :: al, xs, h => by
    obtain ⟨vs, ys, rfl, h1, h2⟩ := h
    intro u hu
    rcases List.mem_append.1 hu with q | q
    · exact E.one h1 u q
    · exact RowE.one1 h2 u q
theorem RowE.mono : ∀ {al : List α} {xs : List Value}, RowE E I xs al → I.le J → RowE E J xs al
  | [], xs, h, _ => h
  | a :: al, xs, h, hl => by
    obtain ⟨vs, ys, rfl, h1, h2⟩ := h
    exact ⟨vs, ys, rfl, E.mono hl h1, RowE.mono h2 hl⟩
theorem RowE.app : ∀ {al bs : List α} {xs ys : List Value}, RowE E I xs al → RowE E I ys bs → RowE E I (xs ++ ys) (al ++ bs)
  | [], bs, xs, ys, h, k => by have : xs = [] := h; subst this; exact k
  | a :: al, bs, xs, ys, h, k => by
    obtain ⟨vs, zs, rfl, h1, h2⟩ := h
    exact ⟨vs, zs ++ ys, by simp, h1, RowE.app h2 k⟩
theorem RowE.single {a : α} {vs : List Value} (h : E.R I a vs) : RowE E I vs [a] := ⟨vs, [], by simp, h, rfl⟩
theorem RowE.split : ∀ {al : List α} {xs : List Value} {i : Nat}, RowE E I xs al → (hi : i < al.length) → ∃ pre vs suf, xs = pre ++ (vs ++ suf) ∧ pre.length = i * n ∧ RowE E I pre (al.take i) ∧ E.R I al[i] vs ∧ RowE E I suf (al.drop (i + 1))
  | [], xs, i, h, hi => by simp at hi
  | a :: al, xs, 0, h, hi => by
    obtain ⟨vs, ys, rfl, h1, h2⟩ := h
    exact ⟨[], vs, ys, rfl, by simp, rfl, h1, h2⟩
  | a :: al, xs, i + 1, h, hi => by
    obtain ⟨vs, ys, rfl, h1, h2⟩ := h
    obtain ⟨pre, ws, suf, rfl, hl, k1, k2, k3⟩ := RowE.split (i := i) h2 (by simpa using hi)
    refine ⟨vs ++ pre, ws, suf, by simp, ?_, ⟨vs, pre, rfl, h1, k1⟩, k2, k3⟩
    rw [List.length_append, E.len h1, hl, Nat.succ_mul]; omega
theorem RowE.at {al : List α} {xs : List Value} {i : Nat} (h : RowE E I xs al) (hi : i < al.length) : ∃ vs, E.R I al[i] vs ∧ (∀ j v, vs[j]? = some v → xs[i * n + j]? = some v) ∧ ∃ r, xs.drop (i * n) = vs ++ r := by
  obtain ⟨pre, vs, suf, rfl, hl, _, h2, _⟩ := h.split hi
  refine ⟨vs, h2, fun j v hj => ?_, suf, by rw [← hl, List.drop_left]⟩
  have hlt := (List.getElem?_eq_some_iff.1 hj).1
  rw [List.getElem?_append_right (by omega), ← hl, Nat.add_sub_cancel_left, List.getElem?_append_left hlt]; exact hj
theorem RowE.cellsAt {al : List α} {xs : List Value} {ad : Option Addr} {i : Nat} (h : RowE E I xs al) (hc : Cells J ad xs) (hi : i < al.length) : ∃ vs, E.R I al[i] vs ∧ At J ad (i * n) vs := by
  obtain ⟨vs, h1, h2, _⟩ := h.at hi
  exact ⟨vs, h1, hc.at _ h2⟩
theorem RowE.take {al : List α} {xs : List Value} (h : RowE E I xs al) (k : Nat) (hk : k ≤ al.length) : RowE E I (xs.take (k * n)) (al.take k) := by
  rcases Nat.lt_or_ge k al.length with q | q
  · obtain ⟨pre, vs, suf, rfl, hl, h1, _, _⟩ := h.split q
    rw [← hl, List.take_left]; exact h1
  · have hx := h.length
    rw [List.take_of_length_le (by rw [hx]; exact Nat.mul_le_mul_right _ q), List.take_of_length_le q]; exact h
theorem RowE.drop : ∀ {al : List α} {xs : List Value} (k : Nat), RowE E I xs al → k ≤ al.length → RowE E I (xs.drop (k * n)) (al.drop k)
  | al, xs, 0, h, _ => by simpa using h
  | [], xs, k + 1, h, hk => by simp at hk
  | a :: al, xs, k + 1, h, hk => by
    obtain ⟨vs, ys, rfl, h1, h2⟩ := h
    have := RowE.drop k h2 (by simpa using hk)
    have e : (vs ++ ys).drop ((k + 1) * n) = ys.drop (k * n) := by
      rw [Nat.succ_mul, Nat.add_comm, ← E.len h1, ← List.drop_drop, List.drop_left]
    rw [e]; exact this
end
theorem stL_mid : ∀ (pre vs suf us ws : List Value) (k : Nat), Lg.stL vs k us = some ws → Lg.stL (pre ++ (vs ++ suf)) (pre.length + k) us = some (pre ++ (ws ++ suf))
  | p :: pre, vs, suf, us, ws, k, h => by
    have ih := stL_mid pre vs suf us ws k h
    show Lg.stL (p :: (pre ++ (vs ++ suf))) (pre.length + 1 + k) us = _
    rw [show pre.length + 1 + k = pre.length + k + 1 by omega]
    cases us with
    | nil =>
      have e1 : Lg.stL (p :: (pre ++ (vs ++ suf))) (pre.length + k + 1) [] = some (p :: (pre ++ (vs ++ suf))) := by simp [Lg.stL]
      have e2 : Lg.stL (pre ++ (vs ++ suf)) (pre.length + k) [] = some (pre ++ (vs ++ suf)) := by simp [Lg.stL]
      rw [e2] at ih
      rw [e1]
      simp only [Option.some.injEq] at ih
      rw [List.cons_append, ← ih]
    | cons u us =>
      simp only [Lg.stL, ih, Option.map_some, List.cons_append]
  | [], vs, suf, us, ws, k, h => by
    simp only [List.nil_append, List.length_nil, Nat.zero_add]
    induction vs generalizing us ws k with
    | nil =>
      cases us with
      | nil => simp [Lg.stL] at h; subst h; simp [Lg.stL]
      | cons u us => simp [Lg.stL] at h
    | cons v vs ih =>
      cases us with
      | nil => simp [Lg.stL] at h; subst h; simp [Lg.stL]
      | cons u us =>
        cases k with
        | zero =>
          simp only [Lg.stL, Option.map_eq_some_iff] at h
          obtain ⟨q, hq, rfl⟩ := h
          simp only [List.cons_append, Lg.stL, ih _ _ _ hq, Option.map_some]
        | succ k =>
          simp only [Lg.stL, Option.map_eq_some_iff] at h
          obtain ⟨q, hq, rfl⟩ := h
          simp only [List.cons_append, Lg.stL, ih _ _ _ hq, Option.map_some]
section
variable {n : Nat} {α : Type} {E : Elt n α} {I J : Imm}
/-- a thing is changed where it stands -/
theorem RowE.store {al : List α} {xs : List Value} {i : Nat} {b : α} (h : RowE E I xs al) (hi : i < al.length) : ∃ vs, E.R I al[i] vs ∧ (∃ r, xs.drop (i * n) = vs ++ r) ∧ ∀ k us ws, Lg.stL vs k us = some ws → E.R I b ws → ∃ ys, Lg.stL xs (i * n + k) us = some ys ∧ RowE E I ys (al.set i b) := by
  obtain ⟨pre, vs, suf, rfl, hl, h1, h2, h3⟩ := h.split hi
  refine ⟨vs, h2, ⟨suf, by rw [← hl, List.drop_left]⟩, fun k us ws hs hb => ⟨pre ++ (ws ++ suf), by rw [← hl]; exact stL_mid _ _ _ _ _ _ hs, ?_⟩⟩
  have e : al.set i b = al.take i ++ (b :: al.drop (i + 1)) := by rw [List.set_eq_take_append_cons_drop]; simp [hi]
  rw [e]
  exact h1.app ⟨ws, suf, rfl, hb, h3⟩
/-- a row that is only read -/
def RepE (E : Elt n α) (I : Imm) (v : Value) (al : List α) : Prop := ∃ (ad : Option Addr) (c : Nat) (xs : List Value), v = .slice ad al.length c ∧ al.length ≤ c ∧ al.length ≤ 1954687338211 ∧ Cells I ad xs ∧ RowE E I xs al
theorem RepE.mono {v : Value} {al : List α} (h : RepE E I v al) (hl : I.le J) : RepE E J v al := by
  obtain ⟨ad, c, xs, rfl, h1, h2, h3, h4⟩ := h
  exact ⟨ad, c, xs, rfl, h1, h2, h3.mono hl, h4.mono hl⟩
theorem RepE.nil : RepE E I (.slice none 0 0) [] := ⟨none, 0, [], rfl, Nat.le_refl _, by simp, fun j v hj => by simp at hj, rfl⟩
theorem RepE.small {v : Value} {al : List α} (h : RepE E I v al) : al.length ≤ 1954687338211 := by obtain ⟨_, _, _, _, _, h2, _⟩ := h; exact h2
end
theorem Lg.Cells.take {I : Imm} {A : Option Addr} {vs : List Value} (h : Cells I A vs) (n : Nat) : Cells I A (vs.take n) := fun j v hj => h j v (by
  rw [List.getElem?_take] at hj
  by_cases q : j < n
  · rwa [if_pos q] at hj
  · rw [if_neg q] at hj; cases hj)
theorem Lg.Cells.cut {I : Imm} {A : Option Addr} {c m size : Nat} {vs : List Value} (h : Cells I A vs) (hl : vs.length ≤ c * size) : Cells I (cutAt A c m size) (vs.drop (m * size)) := fun j v hj => by
  rw [List.getElem?_drop] at hj
  unfold cutAt
  by_cases e : c = m
  · exfalso
    have := (List.getElem?_eq_some_iff.1 hj).1
    subst e; omega
  · rw [if_neg e]
    have := h _ _ hj
    cases A with
    | none => simp [Imm.cellO] at this
    | some a => simpa [add_add] using this
section
variable {n : Nat} {α : Type} {E : Elt n α} {I J : Imm}
theorem RepE.takeR {ad : Option Addr} {c k : Nat} {xs : List Value} {al : List α} (hle : al.length ≤ c) (hb : al.length ≤ 1954687338211) (hc : Cells I ad xs) (hr : RowE E I xs al) (hk : k ≤ al.length) : RepE E I (.slice ad k c) (al.take k) :=
  ⟨ad, c, xs.take (k * n), by rw [List.length_take, Nat.min_eq_left hk], by rw [List.length_take]; omega, by rw [List.length_take]; omega, hc.take _, hr.take k hk⟩
end
theorem RepE.shape {n : Nat} {α : Type} {E : Elt n α} {I : Imm} {v : Value} {al : List α} (h : RepE E I v al) : ∃ ad c, v = .slice ad al.length c := by obtain ⟨ad, c, _, h, _⟩ := h; exact ⟨ad, c, h⟩
end Go.Proofs.YtdbadicpbmndbaaGreat
/- Literals and clauses: how they lie in memory. Plain definitions and theorems; no condition. -/
set_option linter.unusedVariables false
set_option linter.unusedSimpArgs false
namespace Go.Proofs.YtdbadicpbmndbaaGreat
open Go Lg

structure Li where
  neg : Bool
  l : T
  r : T
abbrev liC (x : Li) (la : Option Addr) (lc : Nat) (ra : Option Addr) (rc : Nat) : List Value := [.bool x.neg, .int .i64 x.l.head, .slice la x.l.args.length lc, .int .i64 x.r.head, .slice ra x.r.args.length rc]
/-- a literal that is only read -/
def RepL (I : Imm) (v : Value) (x : Li) : Prop := ∃ (la : Option Addr) (lc : Nat) (ra : Option Addr) (rc : Nat), v = .agg #[.bool x.neg, .int .i64 x.l.head, .slice la x.l.args.length lc, .int .i64 x.r.head, .slice ra x.r.args.length rc] ∧ RepT I (.agg #[.int .i64 x.l.head, .slice la x.l.args.length lc]) x.l ∧ RepT I (.agg #[.int .i64 x.r.head, .slice ra x.r.args.length rc]) x.r
theorem RepL.mono {I J : Imm} {v : Value} {x : Li} (h : RepL I v x) (hl : I.le J) : RepL J v x := by
  obtain ⟨la, lc, ra, rc, h1, h2, h3⟩ := h; exact ⟨la, lc, ra, rc, h1, h2.mono hl, h3.mono hl⟩
def zeroLi : Li := ⟨false, zeroT, zeroT⟩
def eqL (x y : Li) : Bool := (decide (x.l = y.l) && decide (x.r = y.r)) || (decide (x.l = y.r) && decide (x.r = y.l))
def sameL (x y : Li) : Bool := (x.neg == y.neg) && eqL x y
def oppL (x y : Li) : Bool := (!(x.neg == y.neg)) && eqL x y
def exactL (x y : Li) : Bool := (x.neg == y.neg) && (decide (x.l = y.l) && decide (x.r = y.r))
def rowL (x : Li) : List T := if x.neg = true then [x.l, x.l, x.r, x.r] else [x.l, x.r]
instance : DecidableEq Li := fun a b => if h : a.neg = b.neg ∧ a.l = b.l ∧ a.r = b.r then .isTrue (by obtain ⟨h1, h2, h3⟩ := h; cases a; cases b; simp_all) else .isFalse fun e => h (by subst e; exact ⟨rfl, rfl, rfl⟩)
def LitE : Elt 5 Li where
  R := fun I x vs => ∃ (la : Option Addr) (lc : Nat) (ra : Option Addr) (rc : Nat), vs = liC x la lc ra rc ∧ RepT I (.agg #[.int .i64 x.l.head, .slice la x.l.args.length lc]) x.l ∧ RepT I (.agg #[.int .i64 x.r.head, .slice ra x.r.args.length rc]) x.r
  len := by rintro I a vs ⟨la, lc, ra, rc, rfl, _, _⟩; rfl
  one := by
    rintro I a vs ⟨la, lc, ra, rc, rfl, _, _⟩ u hu
    simp only [List.mem_cons, List.not_mem_nil, or_false] at hu
    rcases hu with rfl | rfl | rfl | rfl | rfl <;> rfl
  mono := by rintro I J a vs hl ⟨la, lc, ra, rc, rfl, h1, h2⟩; exact ⟨la, lc, ra, rc, rfl, h1.mono hl, h2.mono hl⟩
abbrev RepC (I : Imm) (v : Value) (c : List Li) : Prop := RepE LitE I v c
theorem RepL.row {I : Imm} {v : Value} {x : Li} (h : RepL I v x) : ∃ vs, v = .agg vs.toArray ∧ LitE.R I x vs := by
  obtain ⟨la, lc, ra, rc, rfl, h1, h2⟩ := h
  exact ⟨_, rfl, la, lc, ra, rc, rfl, h1, h2⟩
theorem lit_row {I : Imm} {vs : List Value} {x : Li} (h : LitE.R I x vs) : RepL I (.agg vs.toArray) x := by
  obtain ⟨la, lc, ra, rc, rfl, h1, h2⟩ := h
  exact ⟨la, lc, ra, rc, rfl, h1, h2⟩
/-- all sides -/
def sidesL (c : List Li) : List T := c.flatMap fun x => [x.l, x.r]
def TermE : Elt 2 T where
  R := fun I t vs => ∃ (a : Option Addr) (c : Nat), vs = [.int .i64 t.head, .slice a t.args.length c] ∧ RepT I (.agg #[.int .i64 t.head, .slice a t.args.length c]) t
  len := by rintro I a vs ⟨la, lc, rfl, _⟩; rfl
  one := by
    rintro I a vs ⟨la, lc, rfl, _⟩ u hu
    simp only [List.mem_cons, List.not_mem_nil, or_false] at hu
    rcases hu with rfl | rfl <;> rfl
  mono := by rintro I J a vs hl ⟨la, lc, rfl, h1⟩; exact ⟨la, lc, rfl, h1.mono hl⟩
theorem RowE.rowT {I : Imm} {xs : List Value} {ts : List T} (h : RowE TermE I xs ts) : RowT I xs ts := by
  refine ⟨h.length, fun i hi => ?_⟩
  obtain ⟨vs, ⟨a, c, rfl, hr⟩, hat, _⟩ := h.at hi
  exact ⟨(a, c), hat 0 _ rfl, hat 1 _ rfl, hr⟩
theorem RowE.repS {I : Imm} {ad : Option Addr} {c : Nat} {xs : List Value} {ts : List T} (h : RowE TermE I xs ts) (hc : Cells I ad xs) (hle : ts.length ≤ c) (hb : ts.length ≤ 4398046511104) : RepS I (.slice ad ts.length c) ts := by
  have := RowT.rep (h := 0) hc h.rowT (by unfold InR; omega) hle hb
  have key : ∀ (v : Value) (t : T) (s : Value), RepT I v t → v = .agg #[.int .i64 t.head, s] → RepS I s t.args := fun v t s hv e => by
    obtain ⟨s', t, hr, hs⟩ := hv
    have e' : s' = s := by simpa using e
    subst e'; exact hs
  exact key _ _ _ this rfl
theorem rowsT_rowE {I : Imm} : ∀ (ts : List T) (ss : Nat → Option Addr × Nat), (∀ i (h : i < ts.length), RepT I (.agg #[.int .i64 ts[i].head, .slice (ss i).1 ts[i].args.length (ss i).2]) ts[i]) → RowE TermE I (rowsT ts ss) ts
  | [], _, _ => rfl
  | t :: ts, ss, h => ⟨[.int .i64 t.head, .slice (ss 0).1 t.args.length (ss 0).2], _, rfl, ⟨_, _, rfl, h 0 (by simp)⟩, rowsT_rowE ts (fun i => ss (i + 1)) fun i hi => h (i + 1) (by simpa using hi)⟩
theorem RepS.rowE {I : Imm} {v : Value} {ts : List T} (h : RepS I v ts) : ∃ (A : Option Addr) (c : Nat) (xs : List Value), v = .slice A ts.length c ∧ ts.length ≤ c ∧ ts.length ≤ 4398046511104 ∧ Cells I A xs ∧ RowE TermE I xs ts := by
  obtain ⟨ad, c, ss, ts, hc, hb, hat, hr, hsub0⟩ := h
  have hsub : ∀ i (h : i < ts.length), RepT I (.agg #[.int .i64 ts[i].head, .slice (ss i).1 ts[i].args.length (ss i).2]) ts[i] := fun i hi => RepT.mk _ _ (hr i hi) (hsub0 i hi)
  exact ⟨ad, c, rowsT ts ss, rfl, hc, hb, (RowT.of hat hsub).1, rowsT_rowE ts ss hsub⟩
end Go.Proofs.YtdbadicpbmndbaaGreat
/- The rules of the logic: arrays as values. No condition. -/
set_option linter.unusedVariables false
set_option linter.unusedSimpArgs false
namespace Go.Proofs.YtdbadicpbmndbaaGreat.Lg
open Go Go.RowKit

variable {C : Ctx} {Q : Exit → Act → World → Prop} {σ : Env} {ds : List Nat} {I : Imm} {δ : List Ent} {ops : Array Oper} {rest : List Oper}
variable {d : Nat} {ty : TypeId} {pos : String} {after : Array Edge}

end Go.Proofs.YtdbadicpbmndbaaGreat.Lg
/- Walks: rows of literals: a clone, all sides, whether they are few. -/
set_option linter.unusedVariables false
set_option linter.unusedSimpArgs false
set_option linter.unnecessarySimpa false
/- short -/
namespace Go.Proofs.YtdbadicpbmndbaaGreat
open Go Lg

theorem CloneC_does {I : Imm} {v : Value} {c : List Li} (hv : RepC I v c) :
    Does Tryz.prog 80 [v] I [] (fun v I' δ' => ∃ ad' c' xs, v = .slice ad' c.length c' ∧ RowE LitE I' xs c ∧ δ' = [.row (.slice ad' c.length c') 59 5 c.length xs]) := by
  obtain ⟨ad, c0, xs, rfl, hc, hb, hcells, hrow⟩ := hv
  refine Does.intro Tryz.func80 rfl Tryz.ntmps80 rfl fun w0 => ?_
  have hxl := hrow.length
  refine code_seq ?_
  refine code_region ?_
  refine op_v (v_assign rfl) rfl ?_
  refine ops_nil ?_
  refine post_next ?_
  refine code_seq ?_
  refine code_seq ?_
  refine code_region ?_
  refine op_v (v_move rfl) rfl ?_
  refine op_v (v_nilq Tryz.underlying23 rfl rfl rfl) rfl ?_
  refine ops_nil ?_
  refine post_next ?_
  refine code_cond rfl (fun hc0 => ?_) (fun hc0 => ?_)
  · have had : ad = none := by simpa using hc0
    subst had
    have hn0 : c = [] := by
      rcases c with _ | ⟨x, r⟩
      · rfl
      · exfalso
        obtain ⟨vs, ⟨la, lc, ra, rc, rfl, _⟩, hat⟩ := hrow.cellsAt hcells (i := 0) (by simp)
        have := hat.isSome
        simp at this
    subst hn0
    refine code_seq ?_
    refine code_region ?_
    refine op_v (v_assign rfl) rfl ?_
    refine ops_nil ?_
    refine post_next ?_
    refine code_ret ?_
    refine post_ret_then ?_
    refine PostJ.view (View.nilRow 59 5) (post_ret (rs := [.tmp 2]) rfl (List.Perm.refl _) (.cons (.tmp rfl) .nil) (List.Sublist.refl _) ⟨none, 0, [], rfl, rfl, rfl⟩)
  · refine code_skip ?_
    refine post_next ?_
    refine code_seq ?_
    refine code_region ?_
    refine o_buildSlice (xs := []) Tryz.underlying23 bs59 rfl rfl rfl rfl rfl (fun b5 => ?_)
    refine op_v (v_move rfl) rfl ?_
    refine o_append Tryz.underlying23 bs59 rfl rfl rfl (fun v' => by repeat (first | exact Swap.here | apply Swap.there)) (Src.ofI hcells) hxl hrow.one1 (by omega) (by omega) (fun a7 c7 => ?_)
    refine op_v (v_assign rfl) rfl ?_
    refine ops_nil ?_
    refine post_next ?_
    refine code_ret ?_
    refine post_ret (rs := [.tmp 2]) rfl (List.Perm.refl _) (.cons (.tmp rfl) .nil) (List.Sublist.refl _) ?_
    refine ⟨a7, c7, xs, ?_, hrow.mono Imm.leA, ?_⟩
    · simp [outV]
    · simp [cat]
theorem sidesL_len (c : List Li) : (sidesL c).length = 2 * c.length := by
  induction c with
  | nil => rfl
  | cons x r ih => simp only [sidesL, List.flatMap_cons, List.length_append, List.length_cons, List.length_nil] at ih ⊢; omega
theorem sidesL_take (c : List Li) (k : Nat) (h : k < c.length) : sidesL (c.take (k + 1)) = sidesL (c.take k) ++ [c[k].l, c[k].r] := by
  rw [List.take_succ_eq_append_getElem h]; simp only [sidesL, List.flatMap_append, List.flatMap_cons, List.flatMap_nil, List.append_nil]
theorem Terms_does {I : Imm} {v : Value} {c : List Li} (hv : RepC I v c) :
    Does Tryz.prog 56 [v] I [] (fun v I' δ' => RepS I' v (sidesL c) ∧ δ' = []) := by
  obtain ⟨ad, c0, xs, rfl, hc, hb, hcells, hrow⟩ := hv
  refine Does.intro Tryz.func56 rfl Tryz.ntmps56 rfl fun w0 => ?_
  refine code_seq ?_
  refine code_region ?_
  refine op_v (v_assign rfl) rfl ?_
  refine ops_nil ?_
  refine post_next ?_
  refine code_seq ?_
  refine code_region ?_
  refine op_v (v_assign rfl) rfl ?_
  refine ops_nil ?_
  refine post_next ?_
  refine code_seq ?_
  refine code_seq ?_
  refine code_region ?_
  refine op_v (v_assign rfl) rfl ?_
  refine ops_nil ?_
  refine post_next ?_
  refine code_block ?_
  refine CodeJ.view (View.nilRow 48 2) ?_
  refine code_loop (fun m σ' I' δ' => ∃ (k : Nat) (A : Option Addr) (c' : Nat) (ys : List Value), m = c.length - k ∧ k ≤ c.length ∧ σ' = [(0, .slice ad c.length c0), (3, .slice A (2 * k) c'), (4, .int .i64 k)] ∧ I = I' ∧ δ' = [.row (.slice A (2 * k) c') 48 2 (2 * k) ys] ∧ RowE TermE I ys (sidesL (c.take k))) c.length [(0, .slice ad c.length c0), (3, .slice none (2 * 0) 0), (4, .int .i64 (0 : Nat))] ⟨0, none, 0, [], rfl, Nat.zero_le _, rfl, rfl, rfl, rfl⟩ ⟨rfl, rfl, rfl, trivial⟩ ?_
  rintro m _ _ _ ⟨k, A, c', ys, rfl, hk, rfl, rfl, rfl, hys⟩
  refine code_seq ?_
  refine code_seq ?_
  refine code_region ?_
  refine op_v (v_move rfl) rfl ?_
  refine op_v (v_move rfl) rfl ?_
  refine op_v (v_len Tryz.underlying23 rfl) rfl ?_
  refine op_v (v_cmp rfl rfl rfl) rfl ?_
  refine ops_nil ?_
  refine post_next ?_
  refine code_cond rfl (fun hc0 => ?_) (fun hc0 => ?_)
  · have hlt : k < c.length := by simpa using hc0
    obtain ⟨vs, ⟨la, lc, ra, rc, rfl, hl, hr⟩, hat⟩ := hrow.cellsAt hcells hlt
    have hs1 := hat.isSome
    refine code_skip ?_
    refine post_next ?_
    refine code_seq ?_
    refine code_block ?_
    refine code_draw (.fl 0 (.fl 1 (.fl 2 (.fl 3 (.fl 4 (.fl 5 (.fl 6 (.fl 7 (.fl 8 (.fl 9 (.fl 10 (.ef 11 (.ef 12 (.ef 13 .done)))))))))))))) (fun _ => ([] : List Ent)) mixed (by kernel_rfl) (by kernel_rfl) (fun _ => (List.nil_sublist _)) ?_
    refine e_fl rfl rfl (fun hs_ => PF.mk rfl (v_move rfl) hs_) ?_
    refine e_fl rfl rfl (fun hs_ => PF.mk rfl (v_move rfl) hs_) ?_
    refine e_fl rfl rfl (fun hs_ => PF.mk rfl (v_move rfl) hs_) ?_
    refine e_fl rfl rfl (fun hs_ => PF.mk rfl (v_indexA Tryz.underlying23 sz59 rfl rfl) hs_) ?_
    refine e_fl rfl rfl (fun hs_ => PF.mk rfl (v_fieldI 1 Tryz.underlying59 rfl rfl fz48 rfl (by assumption)) hs_) ?_
    refine e_fl rfl rfl (fun hs_ => PF.mk rfl (v_loadI (k := 1) ty48 hat rfl rfl rfl) hs_) ?_
    refine e_fl rfl rfl (fun hs_ => PF.mk rfl (v_move rfl) hs_) ?_
    refine e_fl rfl rfl (fun hs_ => PF.mk rfl (v_move rfl) hs_) ?_
    refine e_fl rfl rfl (fun hs_ => PF.mk rfl (v_indexA Tryz.underlying23 sz59 rfl rfl) hs_) ?_
    refine e_fl rfl rfl (fun hs_ => PF.mk rfl (v_fieldI 3 Tryz.underlying59 rfl rfl fz48 rfl (by assumption)) hs_) ?_
    refine e_fl rfl rfl (fun hs_ => PF.mk rfl (v_loadI (k := 3) ty48 hat rfl rfl rfl) hs_) ?_
    refine e_eff rfl (by intro cs b hc; cases hc) (by intro c hc; cases hc) ?_
    refine o_buildSlice (xs := [(Go.Operand.tmp 16), (Go.Operand.tmp 21)]) Tryz.underlying46 bs48 rfl rfl rfl rfl rfl (fun b22 => ?_)
    refine ops_nil ?_
    refine e_next rfl side_allA ?_
    refine e_eff rfl (by intro cs b hc; cases hc) (by intro c hc; cases hc) ?_
    refine o_append Tryz.underlying46 bs48 rfl rfl rfl (fun v' => by repeat (first | exact Swap.here | apply Swap.there)) (Src.ofRow (by repeat (first | exact Has.here | apply Has.there)) rfl) (by first | rfl | omega | simp) (by simp [cat, cellsL, Value.oneCell']) (by omega) (by omega) (fun a23 c23 => ?_)
    refine ops_nil ?_
    refine e_next rfl side_allA ?_
    refine e_eff rfl (by intro cs b hc; cases hc) (by intro c hc; cases hc) ?_
    refine op_v (v_assign rfl) rfl ?_
    refine ops_nil ?_
    refine e_next rfl (side_nil (by kernel_rfl)) ?_
    refine e_done ?_
    refine post_out ?_
    refine post_next ?_
    refine code_region ?_
    refine op_v (v_move rfl) rfl ?_
    refine op_v (v_addb rfl rfl rfl (by omega)) rfl ?_
    refine op_v (v_assign rfl) rfl ?_
    refine ops_nil ?_
    refine PostJ.view (View.drop Del.here) ?_
    refine post_again (c.length - (k + 1)) [(0, .slice ad c.length c0), (3, .slice a23 (2 * (k + 1)) c23), (4, .int .i64 (k + 1 : Nat))] (by omega) ⟨k + 1, a23, c23, ys ++ [.int .i64 c[k].l.head, .slice la c[k].l.args.length lc, .int .i64 c[k].r.head, .slice ra c[k].r.args.length rc], rfl, hlt, rfl, rfl, ?_, ?_⟩ ⟨rfl, rfl, rfl, trivial⟩
    · simp [cat, cellsL]; omega
    · rw [sidesL_take c k hlt]
      exact hys.app ⟨[.int .i64 c[k].l.head, .slice la c[k].l.args.length lc], [.int .i64 c[k].r.head, .slice ra c[k].r.args.length rc], rfl, ⟨la, lc, rfl, hl⟩, RowE.single ⟨ra, rc, rfl, hr⟩⟩
  · have hge : k = c.length := by simp at hc0; omega
    subst hge
    rw [List.take_length] at hys
    refine code_exit ?_
    refine post_exit_then ?_
    refine post_exit_then ?_
    refine post_exit ?_
    refine post_next ?_
    refine code_seq ?_
    refine code_region ?_
    refine OpsJ.freezeRow Del.here ?_
    rintro I24 a24 c24 hI24 hq hc24 hl24 hcells24
    cases hq
    refine op_v (v_move rfl) rfl ?_
    refine op_v (v_assign rfl) rfl ?_
    refine ops_nil ?_
    refine post_next ?_
    refine code_ret ?_
    refine post_ret (rs := [.tmp 2]) rfl (List.Perm.refl _) (.cons (.tmp rfl) .nil) (List.nil_sublist _) ?_
    refine ⟨?_, rfl⟩
    have h2 := sidesL_len c
    have := RowE.repS (c := c') (hys.mono hI24) hcells24 (by omega) (by omega)
    rw [h2] at this; exact this
theorem sizeL_getL {ts : List T} {n : Nat} (h : sizeL ts ≤ n) : ∀ x ∈ ts, x.size ≤ n := by
  intro x hx
  obtain ⟨i, hi, rfl⟩ := List.getElem_of_mem hx
  have h1 := sizeL_take ts i hi
  have h2 : sizeL (ts.take (i + 1)) + sizeL (ts.drop (i + 1)) = sizeL ts := by rw [← sizeL_app, List.take_append_drop]
  omega
theorem Few5_does {I : Imm} {v : Value} {ts : List T} (hv : RepS I v ts) :
    Does Tryz.prog 66 [v] I [] (fun v I' δ' => (∃ b, v = .bool b ∧ (b = true → sizeL ts ≤ 500)) ∧ δ' = []) := by
  obtain ⟨ad, c, ss, ts, hc, hb, hat, hr, hsub0⟩ := hv
  have hsub : ∀ i (h : i < ts.length), RepT I (.agg #[.int .i64 ts[i].head, .slice (ss i).1 ts[i].args.length (ss i).2]) ts[i] := fun i hi => RepT.mk _ _ (hr i hi) (hsub0 i hi)
  refine Does.intro Tryz.func66 rfl Tryz.ntmps66 rfl fun w0 => ?_
  refine code_seq ?_
  refine code_region ?_
  refine op_v (v_assign rfl) rfl ?_
  refine ops_nil ?_
  refine post_next ?_
  refine code_seq ?_
  refine code_region ?_
  refine op_v (v_assign rfl) rfl ?_
  refine ops_nil ?_
  refine post_next ?_
  refine code_seq ?_
  refine code_seq ?_
  refine code_region ?_
  refine op_v (v_assign rfl) rfl ?_
  refine ops_nil ?_
  refine post_next ?_
  refine code_block ?_
  refine code_loop (fun m σ' I' δ' => ∃ (k n : Nat), m = ts.length - k ∧ k ≤ ts.length ∧ σ' = [(0, .slice ad ts.length c), (3, .int .i64 n), (4, .int .i64 k)] ∧ I.le I' ∧ δ' = [] ∧ n ≤ 2000 ∧ (n ≤ 500 → n = sizeL (ts.take k))) ts.length [(0, .slice ad ts.length c), (3, .int .i64 (0 : Nat)), (4, .int .i64 (0 : Nat))] ⟨0, 0, rfl, Nat.zero_le _, rfl, Imm.le_refl _, rfl, by omega, fun _ => rfl⟩ ⟨rfl, rfl, rfl, trivial⟩ ?_
  rintro m _ I0 _ ⟨k, n, rfl, hk, rfl, hI0, rfl, hn, hp⟩
  refine code_seq ?_
  refine code_seq ?_
  refine code_region ?_
  refine op_v (v_move rfl) rfl ?_
  refine op_v (v_move rfl) rfl ?_
  refine op_v (v_len Tryz.underlying46 rfl) rfl ?_
  by_cases h7 : k < ts.length
  · have hs1 := (hat k h7).isSome
    have hst := sizeL_take ts k h7
    refine op_v (v_cmptA rfl rfl rfl) rfl ?_
    refine op_v (v_move rfl) rfl ?_
    refine op_want rfl rfl ?_
    refine op_v (v_move rfl) rfl ?_
    by_cases h16 : n ≤ 500
    · first
        | (refine op_want rfl rfl ?_
           refine op_v (v_cmptA rfl rfl rfl) rfl ?_)
        | (refine op_skip rfl rfl (by simp [undef]) rfl ?_)
      refine op_v (v_pickt rfl rfl) rfl ?_
      refine ops_nil ?_
      refine post_next ?_
      refine code_cond_t rfl ?_
      refine code_skip ?_
      refine post_next ?_
      refine code_seq ?_
      refine code_block ?_
      refine code_region ?_
      refine op_v (v_move rfl) rfl ?_
      refine op_v (v_move rfl) rfl ?_
      refine op_v (v_move rfl) rfl ?_
      refine op_v (v_indexA Tryz.underlying46 sz48 rfl rfl) rfl ?_
      refine op_v (v_loadI0 ty48 ((hat k h7).mono hI0) rfl rfl rfl) rfl ?_
      refine op_call pl24 rfl rfl ((Count_does _ _ (Nat.le_refl _) 500 (by omega) _ _ ((hsub k h7).mono hI0))) Parts.none ?_
      rintro v20 I20 _ hI20 ⟨rfl, rfl⟩
      refine op_v (v_addb rfl rfl rfl (by omega)) rfl ?_
      refine op_v (v_assign rfl) rfl ?_
      refine ops_nil ?_
      refine post_out ?_
      refine post_next ?_
      refine code_region ?_
      refine op_v (v_move rfl) rfl ?_
      refine op_v (v_addb rfl rfl rfl (by omega)) rfl ?_
      refine op_v (v_assign rfl) rfl ?_
      refine ops_nil ?_
      refine post_again (ts.length - (k + 1)) [(0, .slice ad ts.length c), (3, .int .i64 ((n : Int) + ((min ts[k].size (500 + 1) : Nat) : Int))), (4, .int .i64 (k + 1 : Nat))] (by omega) ⟨k + 1, n + min ts[k].size (500 + 1), rfl, h7, by rw [show ((n + min ts[k].size (500 + 1) : Nat) : Int) = (n : Int) + ((min ts[k].size (500 + 1) : Nat) : Int) from Int.natCast_add _ _], Imm.leA, rfl, by omega, fun hq => ?_⟩ ⟨rfl, rfl, rfl, trivial⟩
      have := hp (by omega)
      omega
    · first
        | (refine op_want rfl rfl ?_
           refine op_v (v_cmpfA rfl rfl rfl) rfl ?_)
        | (refine op_skip rfl rfl (by simp [undef]) rfl ?_)
      refine op_v (v_pickt rfl rfl) rfl ?_
      refine ops_nil ?_
      refine post_next ?_
      refine code_cond_f rfl ?_
      refine code_exit ?_
      refine post_exit_then ?_
      refine post_exit_then ?_
      refine post_exit ?_
      refine post_next ?_
      refine code_seq ?_
      refine code_region ?_
      refine op_v (v_move rfl) rfl ?_
      refine op_v (v_cmpfA rfl rfl rfl) rfl ?_
      refine op_v (v_assign rfl) rfl ?_
      refine ops_nil ?_
      refine post_next ?_
      refine code_ret ?_
      refine post_ret (rs := [.tmp 2]) rfl (List.Perm.refl _) (.cons (.tmp rfl) .nil) (List.nil_sublist _) ?_
      exact ⟨⟨false, rfl, fun h => by cases h⟩, rfl⟩
  · refine op_v (v_cmpfA rfl rfl rfl) rfl ?_
    refine op_v (v_move rfl) rfl ?_
    refine op_skip rfl rfl (by simp [undef]) rfl ?_
    refine op_skip rfl rfl (by simp [undef]) rfl ?_
    refine op_v (v_pickf rfl rfl) rfl ?_
    refine ops_nil ?_
    refine post_next ?_
    refine code_cond_f rfl ?_
    refine code_exit ?_
    refine post_exit_then ?_
    refine post_exit_then ?_
    refine post_exit ?_
    refine post_next ?_
    refine code_seq ?_
    refine code_region ?_
    refine op_v (v_move rfl) rfl ?_
    by_cases h33 : n ≤ 500
    · refine op_v (v_cmptA rfl rfl rfl) rfl ?_
      refine op_v (v_assign rfl) rfl ?_
      refine ops_nil ?_
      refine post_next ?_
      refine code_ret ?_
      refine post_ret (rs := [.tmp 2]) rfl (List.Perm.refl _) (.cons (.tmp rfl) .nil) (List.nil_sublist _) ?_
      exact ⟨⟨true, rfl, fun _ => by have := hp h33; rw [List.take_of_length_le (by omega)] at this; omega⟩, rfl⟩
    · refine op_v (v_cmpfA rfl rfl rfl) rfl ?_
      refine op_v (v_assign rfl) rfl ?_
      refine ops_nil ?_
      refine post_next ?_
      refine code_ret ?_
      refine post_ret (rs := [.tmp 2]) rfl (List.Perm.refl _) (.cons (.tmp rfl) .nil) (List.nil_sublist _) ?_
      exact ⟨⟨false, rfl, fun h => by cases h⟩, rfl⟩
def FewC (c : List Li) : Prop := c.length ≤ 40 ∧ sizeL (sidesL c) ≤ 500
theorem Few10_does {I : Imm} {v : Value} {c : List Li} (hv : RepC I v c) :
    Does Tryz.prog 23 [v] I [] (fun v I' δ' => (∃ b, v = .bool b ∧ (b = true → FewC c)) ∧ δ' = []) := by
  obtain ⟨ad, c0, hvs⟩ : ∃ ad c0, v = .slice ad c.length c0 := by obtain ⟨ad, c0, _, h, _⟩ := hv; exact ⟨ad, c0, h⟩
  subst hvs
  have hsm := hv.small
  refine Does.intro Tryz.func23 rfl Tryz.ntmps23 rfl fun w0 => ?_
  refine code_seq ?_
  refine code_region ?_
  refine op_v (v_assign rfl) rfl ?_
  refine ops_nil ?_
  refine post_next ?_
  refine code_seq ?_
  refine code_region ?_
  refine op_v (v_move rfl) rfl ?_
  refine op_v (v_len Tryz.underlying23 rfl) rfl ?_
  by_cases h5 : c.length ≤ 40
  · refine op_v (v_cmptA rfl rfl rfl) rfl ?_
    refine op_v (v_move rfl) rfl ?_
    refine op_want rfl rfl ?_
    refine op_v (v_move rfl) rfl ?_
    refine op_want rfl rfl ?_
    refine op_call pl56 rfl rfl ((Terms_does (hv.mono Imm.leA))) Parts.none ?_
    rintro v8 I8 _ hI8 ⟨hs8, rfl⟩
    refine op_want rfl rfl ?_
    refine op_call pl66 rfl rfl ((Few5_does hs8)) Parts.none ?_
    rintro v9 I9 _ hI9 ⟨⟨b9, rfl, hb9⟩, rfl⟩
    refine op_v (v_pickt rfl rfl) rfl ?_
    refine op_v (v_assign rfl) rfl ?_
    refine ops_nil ?_
    refine post_next ?_
    refine code_ret ?_
    refine post_ret (rs := [.tmp 2]) rfl (List.Perm.refl _) (.cons (.tmp rfl) .nil) (List.nil_sublist _) ?_
    exact ⟨⟨b9, rfl, fun h => ⟨h5, hb9 h⟩⟩, rfl⟩
  · refine op_v (v_cmpfA rfl rfl rfl) rfl ?_
    refine op_v (v_move rfl) rfl ?_
    refine op_skip rfl rfl (by simp [undef]) rfl ?_
    refine op_skip rfl rfl (by simp [undef]) rfl ?_
    refine op_skip rfl rfl (by simp [undef]) rfl ?_
    refine op_v (v_pickf rfl rfl) rfl ?_
    refine op_v (v_assign rfl) rfl ?_
    refine ops_nil ?_
    refine post_next ?_
    refine code_ret ?_
    refine post_ret (rs := [.tmp 2]) rfl (List.Perm.refl _) (.cons (.tmp rfl) .nil) (List.nil_sublist _) ?_
    exact ⟨⟨false, rfl, fun h => by cases h⟩, rfl⟩
theorem FewC.sides {c : List Li} (h : FewC c) : ∀ x ∈ c, x.l.size ≤ 500 ∧ x.r.size ≤ 500 := fun x hx =>
  ⟨sizeL_getL h.2 _ (List.mem_flatMap.2 ⟨x, hx, by simp⟩), sizeL_getL h.2 _ (List.mem_flatMap.2 ⟨x, hx, by simp⟩)⟩
end Go.Proofs.YtdbadicpbmndbaaGreat
/- Walks: the example of the chapter on the order; few signatures and terms. -/
set_option linter.unusedVariables false
set_option linter.unusedSimpArgs false
/- short -/
namespace Go.Proofs.YtdbadicpbmndbaaGreat
open Go Lg

def gs8 : List Sy := [truthS, ⟨⟨#[97]⟩, 0, 1, false⟩, ⟨⟨#[102]⟩, 1, 1, false⟩]
end Go.Proofs.YtdbadicpbmndbaaGreat
/- Walks: literals: whether two are the same, what they are compared by. -/
set_option linter.unusedVariables false
set_option linter.unusedSimpArgs false
set_option linter.unnecessarySimpa false
/- short -/
namespace Go.Proofs.YtdbadicpbmndbaaGreat
open Go Lg

/-! ### walks -/
theorem equal_does {I : Imm} {va vb : Value} {x y : Li} (ha : RepL I va x) (hb : RepL I vb y) (h1 : x.l.size ≤ 1000000000) (h2 : x.r.size ≤ 1000000000) (h3 : y.l.size ≤ 1000000000) (h4 : y.r.size ≤ 1000000000) :
    Does Tryz.prog 83 [va, vb] I [] (fun v _ δ' => v = .bool (eqL x y) ∧ δ' = []) := by
  obtain ⟨la, lc, ra, rc, rfl, hl, hr⟩ := ha
  obtain ⟨ma, mc, na, nc, rfl, kl, kr⟩ := hb
  refine Does.intro Tryz.func83 rfl Tryz.ntmps83 rfl fun w0 => ?_
  refine code_seq ?_
  refine code_region ?_
  refine o_box rfl rfl rfl (fun b2 => ?_)
  refine o_box rfl rfl rfl (fun b3 => ?_)
  refine op_v (v_assign rfl) rfl ?_
  refine ops_nil ?_
  refine post_next ?_
  refine code_seq ?_
  refine code_region ?_
  refine op_v (v_fieldB 1 Tryz.underlying59 rfl rfl fz48 rfl) rfl ?_
  refine op_v (v_loadA ty48 rfl rfl) rfl ?_
  refine op_v (v_fieldB 1 Tryz.underlying59 rfl rfl fz48 rfl) rfl ?_
  refine op_v (v_loadA ty48 rfl rfl) rfl ?_
  refine op_call pl123 rfl rfl ((TSame_does (hl.mono Imm.leA) (kl.mono Imm.leA) h1 h3)) Parts.none ?_
  rintro _ I9 _ hI9 ⟨rfl, rfl⟩
  by_cases e1 : x.l = y.l
  · rw [show decide (x.l = y.l) = true by simpa using e1]
    refine op_v (v_move rfl) rfl ?_
    first
      | (refine op_want rfl rfl ?_
         refine op_v (v_fieldB 3 Tryz.underlying59 rfl rfl fz48 rfl) rfl ?_)
      | (refine op_skip rfl rfl (by simp [undef]) rfl ?_)
    refine op_want rfl rfl ?_
    refine op_v (v_loadA ty48 rfl rfl) rfl ?_
    first
      | (refine op_want rfl rfl ?_
         refine op_v (v_fieldB 3 Tryz.underlying59 rfl rfl fz48 rfl) rfl ?_)
      | (refine op_skip rfl rfl (by simp [undef]) rfl ?_)
    refine op_want rfl rfl ?_
    refine op_v (v_loadA ty48 rfl rfl) rfl ?_
    refine op_want rfl rfl ?_
    refine op_call pl123 rfl rfl ((TSame_does (hr.mono Imm.leA) (kr.mono Imm.leA) h2 h4)) Parts.none ?_
    rintro _ I15 _ hI15 ⟨rfl, rfl⟩
    by_cases e2 : x.r = y.r
    · rw [show decide (x.r = y.r) = true by simpa using e2]
      refine op_v (v_pickt rfl rfl) rfl ?_
      refine op_v (v_move rfl) rfl ?_
      refine op_skip rfl rfl (by simp [undef]) rfl ?_
      refine op_skip rfl rfl (by simp [undef]) rfl ?_
      refine op_skip rfl rfl (by simp [undef]) rfl ?_
      refine op_skip rfl rfl (by simp [undef]) rfl ?_
      refine op_skip rfl rfl (by simp [undef]) rfl ?_
      refine op_skip rfl rfl (by simp [undef]) rfl ?_
      refine op_skip rfl rfl (by simp [undef]) rfl ?_
      refine op_skip rfl rfl (by simp [undef]) rfl ?_
      refine op_skip rfl rfl (by simp [undef]) rfl ?_
      refine op_skip rfl rfl (by simp [undef]) rfl ?_
      refine op_skip rfl rfl (by simp [undef]) rfl ?_
      refine op_skip rfl rfl (by simp [undef]) rfl ?_
      refine op_v (v_pickt rfl rfl) rfl ?_
      refine op_v (v_assign rfl) rfl ?_
      refine ops_nil ?_
      refine post_next ?_
      refine code_ret ?_
      refine post_ret (rs := [.tmp 4]) rfl (List.Perm.refl _) (.cons (.tmp rfl) .nil) (List.nil_sublist _) ?_
      exact ⟨by simp [outV, eqL, e1, e2], rfl⟩
    · rw [show decide (x.r = y.r) = false by simpa using e2]
      refine op_v (v_pickt rfl rfl) rfl ?_
      refine op_v (v_move rfl) rfl ?_
      first
        | (refine op_want rfl rfl ?_
           refine op_v (v_fieldB 1 Tryz.underlying59 rfl rfl fz48 rfl) rfl ?_)
        | (refine op_skip rfl rfl (by simp [undef]) rfl ?_)
      refine op_want rfl rfl ?_
      refine op_v (v_loadA ty48 rfl rfl) rfl ?_
      first
        | (refine op_want rfl rfl ?_
           refine op_v (v_fieldB 3 Tryz.underlying59 rfl rfl fz48 rfl) rfl ?_)
        | (refine op_skip rfl rfl (by simp [undef]) rfl ?_)
      refine op_want rfl rfl ?_
      refine op_v (v_loadA ty48 rfl rfl) rfl ?_
      refine op_want rfl rfl ?_
      refine op_call pl123 rfl rfl ((TSame_does (hl.mono Imm.leA) (kr.mono Imm.leA) h1 h4)) Parts.none ?_
      rintro _ I22 _ hI22 ⟨rfl, rfl⟩
      by_cases e3 : x.l = y.r
      · rw [show decide (x.l = y.r) = true by simpa using e3]
        refine op_want rfl rfl ?_
        refine op_v (v_move rfl) rfl ?_
        first
          | (refine op_want rfl rfl ?_
             refine op_v (v_fieldB 3 Tryz.underlying59 rfl rfl fz48 rfl) rfl ?_)
          | (refine op_skip rfl rfl (by simp [undef]) rfl ?_)
        refine op_want rfl rfl ?_
        refine op_v (v_loadA ty48 rfl rfl) rfl ?_
        first
          | (refine op_want rfl rfl ?_
             refine op_v (v_fieldB 1 Tryz.underlying59 rfl rfl fz48 rfl) rfl ?_)
          | (refine op_skip rfl rfl (by simp [undef]) rfl ?_)
        refine op_want rfl rfl ?_
        refine op_v (v_loadA ty48 rfl rfl) rfl ?_
        refine op_want rfl rfl ?_
        refine op_call pl123 rfl rfl ((TSame_does (hr.mono Imm.leA) (kl.mono Imm.leA) h2 h3)) Parts.none ?_
        rintro _ I28 _ hI28 ⟨rfl, rfl⟩
        first
          | (refine op_want rfl rfl ?_
             refine op_v (v_pickt rfl rfl) rfl ?_)
          | (refine op_skip rfl rfl (by simp [undef]) rfl ?_)
        refine op_v (v_pickf rfl rfl) rfl ?_
        refine op_v (v_assign rfl) rfl ?_
        refine ops_nil ?_
        refine post_next ?_
        refine code_ret ?_
        refine post_ret (rs := [.tmp 4]) rfl (List.Perm.refl _) (.cons (.tmp rfl) .nil) (List.nil_sublist _) ?_
        exact ⟨by unfold eqL; simp_all [outV], rfl⟩
      · rw [show decide (x.l = y.r) = false by simpa using e3]
        refine op_want rfl rfl ?_
        refine op_v (v_move rfl) rfl ?_
        refine op_skip rfl rfl (by simp [undef]) rfl ?_
        refine op_skip rfl rfl (by simp [undef]) rfl ?_
        refine op_skip rfl rfl (by simp [undef]) rfl ?_
        refine op_skip rfl rfl (by simp [undef]) rfl ?_
        refine op_skip rfl rfl (by simp [undef]) rfl ?_
        first
          | (refine op_want rfl rfl ?_
             refine op_v (v_pickf rfl rfl) rfl ?_)
          | (refine op_skip rfl rfl (by simp [undef]) rfl ?_)
        refine op_v (v_pickf rfl rfl) rfl ?_
        refine op_v (v_assign rfl) rfl ?_
        refine ops_nil ?_
        refine post_next ?_
        refine code_ret ?_
        refine post_ret (rs := [.tmp 4]) rfl (List.Perm.refl _) (.cons (.tmp rfl) .nil) (List.nil_sublist _) ?_
        exact ⟨by unfold eqL; simp_all [outV], rfl⟩
  · rw [show decide (x.l = y.l) = false by simpa using e1]
    refine op_v (v_move rfl) rfl ?_
    refine op_skip rfl rfl (by simp [undef]) rfl ?_
    refine op_skip rfl rfl (by simp [undef]) rfl ?_
    refine op_skip rfl rfl (by simp [undef]) rfl ?_
    refine op_skip rfl rfl (by simp [undef]) rfl ?_
    refine op_skip rfl rfl (by simp [undef]) rfl ?_
    refine op_v (v_pickf rfl rfl) rfl ?_
    refine op_v (v_move rfl) rfl ?_
    first
      | (refine op_want rfl rfl ?_
         refine op_v (v_fieldB 1 Tryz.underlying59 rfl rfl fz48 rfl) rfl ?_)
      | (refine op_skip rfl rfl (by simp [undef]) rfl ?_)
    refine op_want rfl rfl ?_
    refine op_v (v_loadA ty48 rfl rfl) rfl ?_
    first
      | (refine op_want rfl rfl ?_
         refine op_v (v_fieldB 3 Tryz.underlying59 rfl rfl fz48 rfl) rfl ?_)
      | (refine op_skip rfl rfl (by simp [undef]) rfl ?_)
    refine op_want rfl rfl ?_
    refine op_v (v_loadA ty48 rfl rfl) rfl ?_
    refine op_want rfl rfl ?_
    refine op_call pl123 rfl rfl ((TSame_does (hl.mono Imm.leA) (kr.mono Imm.leA) h1 h4)) Parts.none ?_
    rintro _ I22 _ hI22 ⟨rfl, rfl⟩
    by_cases e3 : x.l = y.r
    · rw [show decide (x.l = y.r) = true by simpa using e3]
      refine op_want rfl rfl ?_
      refine op_v (v_move rfl) rfl ?_
      first
        | (refine op_want rfl rfl ?_
           refine op_v (v_fieldB 3 Tryz.underlying59 rfl rfl fz48 rfl) rfl ?_)
        | (refine op_skip rfl rfl (by simp [undef]) rfl ?_)
      refine op_want rfl rfl ?_
      refine op_v (v_loadA ty48 rfl rfl) rfl ?_
      first
        | (refine op_want rfl rfl ?_
           refine op_v (v_fieldB 1 Tryz.underlying59 rfl rfl fz48 rfl) rfl ?_)
        | (refine op_skip rfl rfl (by simp [undef]) rfl ?_)
      refine op_want rfl rfl ?_
      refine op_v (v_loadA ty48 rfl rfl) rfl ?_
      refine op_want rfl rfl ?_
      refine op_call pl123 rfl rfl ((TSame_does (hr.mono Imm.leA) (kl.mono Imm.leA) h2 h3)) Parts.none ?_
      rintro _ I28 _ hI28 ⟨rfl, rfl⟩
      first
        | (refine op_want rfl rfl ?_
           refine op_v (v_pickt rfl rfl) rfl ?_)
        | (refine op_skip rfl rfl (by simp [undef]) rfl ?_)
      refine op_v (v_pickf rfl rfl) rfl ?_
      refine op_v (v_assign rfl) rfl ?_
      refine ops_nil ?_
      refine post_next ?_
      refine code_ret ?_
      refine post_ret (rs := [.tmp 4]) rfl (List.Perm.refl _) (.cons (.tmp rfl) .nil) (List.nil_sublist _) ?_
      exact ⟨by unfold eqL; simp_all [outV], rfl⟩
    · rw [show decide (x.l = y.r) = false by simpa using e3]
      refine op_want rfl rfl ?_
      refine op_v (v_move rfl) rfl ?_
      refine op_skip rfl rfl (by simp [undef]) rfl ?_
      refine op_skip rfl rfl (by simp [undef]) rfl ?_
      refine op_skip rfl rfl (by simp [undef]) rfl ?_
      refine op_skip rfl rfl (by simp [undef]) rfl ?_
      refine op_skip rfl rfl (by simp [undef]) rfl ?_
      first
        | (refine op_want rfl rfl ?_
           refine op_v (v_pickf rfl rfl) rfl ?_)
        | (refine op_skip rfl rfl (by simp [undef]) rfl ?_)
      refine op_v (v_pickf rfl rfl) rfl ?_
      refine op_v (v_assign rfl) rfl ?_
      refine ops_nil ?_
      refine post_next ?_
      refine code_ret ?_
      refine post_ret (rs := [.tmp 4]) rfl (List.Perm.refl _) (.cons (.tmp rfl) .nil) (List.nil_sublist _) ?_
      exact ⟨by unfold eqL; simp_all [outV], rfl⟩
theorem LSame_does {I : Imm} {va vb : Value} {x y : Li} (ha : RepL I va x) (hb : RepL I vb y) (h1 : x.l.size ≤ 1000000000) (h2 : x.r.size ≤ 1000000000) (h3 : y.l.size ≤ 1000000000) (h4 : y.r.size ≤ 1000000000) :
    Does Tryz.prog 40 [va, vb] I [] (fun v _ δ' => v = .bool (sameL x y) ∧ δ' = []) := by
  have ha0 := ha
  have hb0 := hb
  obtain ⟨la, lc, ra, rc, rfl, hl, hr⟩ := ha
  obtain ⟨ma, mc, na, nc, rfl, kl, kr⟩ := hb
  refine Does.intro Tryz.func40 rfl Tryz.ntmps40 rfl fun w0 => ?_
  refine code_seq ?_
  refine code_region ?_
  refine o_box rfl rfl rfl (fun b2 => ?_)
  refine o_box rfl rfl rfl (fun b3 => ?_)
  refine op_v (v_assign rfl) rfl ?_
  refine ops_nil ?_
  refine post_next ?_
  refine code_seq ?_
  refine code_region ?_
  refine op_v (v_fieldB 0 Tryz.underlying59 rfl rfl fz4 rfl) rfl ?_
  refine op_v (v_loadA ty4 rfl rfl) rfl ?_
  refine op_v (v_fieldB 0 Tryz.underlying59 rfl rfl fz4 rfl) rfl ?_
  refine op_v (v_loadA ty4 rfl rfl) rfl ?_
  refine op_v (v_eqb (z := (x.neg == y.neg)) Tryz.underlying4 rfl rfl rfl) rfl ?_
  by_cases e1 : (x.neg == y.neg) = true
  · rw [e1]
    refine op_v (v_move rfl) rfl ?_
    refine op_want rfl rfl ?_
    refine op_v (v_loadA ty59 rfl rfl) rfl ?_
    refine op_want rfl rfl ?_
    refine op_v (v_loadA ty59 rfl rfl) rfl ?_
    refine op_want rfl rfl ?_
    refine op_call pl83 rfl rfl ((equal_does (ha0.mono Imm.leA) (hb0.mono Imm.leA) h1 h2 h3 h4)) Parts.none ?_
    rintro _ I13 _ hI13 ⟨rfl, rfl⟩
    refine op_v (v_pickt rfl rfl) rfl ?_
    refine op_v (v_assign rfl) rfl ?_
    refine ops_nil ?_
    refine post_next ?_
    refine code_ret ?_
    refine post_ret (rs := [.tmp 4]) rfl (List.Perm.refl _) (.cons (.tmp rfl) .nil) (List.nil_sublist _) ?_
    exact ⟨by unfold sameL; rw [e1]; rfl, rfl⟩
  · have e1' : (x.neg == y.neg) = false := by simpa using e1
    rw [e1']
    refine op_v (v_move rfl) rfl ?_
    refine op_skip rfl rfl (by simp [undef]) rfl ?_
    refine op_skip rfl rfl (by simp [undef]) rfl ?_
    refine op_skip rfl rfl (by simp [undef]) rfl ?_
    refine op_v (v_pickf rfl rfl) rfl ?_
    refine op_v (v_assign rfl) rfl ?_
    refine ops_nil ?_
    refine post_next ?_
    refine code_ret ?_
    refine post_ret (rs := [.tmp 4]) rfl (List.Perm.refl _) (.cons (.tmp rfl) .nil) (List.nil_sublist _) ?_
    exact ⟨by unfold sameL; rw [e1']; rfl, rfl⟩
theorem LOpp_does {I : Imm} {va vb : Value} {x y : Li} (ha : RepL I va x) (hb : RepL I vb y) (h1 : x.l.size ≤ 1000000000) (h2 : x.r.size ≤ 1000000000) (h3 : y.l.size ≤ 1000000000) (h4 : y.r.size ≤ 1000000000) :
    Does Tryz.prog 107 [va, vb] I [] (fun v _ δ' => v = .bool (oppL x y) ∧ δ' = []) := by
  have ha0 := ha
  have hb0 := hb
  obtain ⟨la, lc, ra, rc, rfl, hl, hr⟩ := ha
  obtain ⟨ma, mc, na, nc, rfl, kl, kr⟩ := hb
  refine Does.intro Tryz.func107 rfl Tryz.ntmps107 rfl fun w0 => ?_
  refine code_seq ?_
  refine code_region ?_
  refine o_box rfl rfl rfl (fun b2 => ?_)
  refine o_box rfl rfl rfl (fun b3 => ?_)
  refine op_v (v_assign rfl) rfl ?_
  refine ops_nil ?_
  refine post_next ?_
  refine code_seq ?_
  refine code_region ?_
  refine op_v (v_fieldB 0 Tryz.underlying59 rfl rfl fz4 rfl) rfl ?_
  refine op_v (v_loadA ty4 rfl rfl) rfl ?_
  refine op_v (v_fieldB 0 Tryz.underlying59 rfl rfl fz4 rfl) rfl ?_
  refine op_v (v_loadA ty4 rfl rfl) rfl ?_
  refine op_v (v_eqb (z := !(x.neg == y.neg)) Tryz.underlying4 rfl rfl rfl) rfl ?_
  by_cases e1 : (x.neg == y.neg) = true
  · rw [e1]
    refine op_v (v_move rfl) rfl ?_
    refine op_skip rfl rfl (by simp [undef]) rfl ?_
    refine op_skip rfl rfl (by simp [undef]) rfl ?_
    refine op_skip rfl rfl (by simp [undef]) rfl ?_
    refine op_v (v_pickf rfl rfl) rfl ?_
    refine op_v (v_assign rfl) rfl ?_
    refine ops_nil ?_
    refine post_next ?_
    refine code_ret ?_
    refine post_ret (rs := [.tmp 4]) rfl (List.Perm.refl _) (.cons (.tmp rfl) .nil) (List.nil_sublist _) ?_
    exact ⟨by unfold oppL; rw [e1]; rfl, rfl⟩
  · have e1' : (x.neg == y.neg) = false := by simpa using e1
    rw [e1']
    refine op_v (v_move rfl) rfl ?_
    refine op_want rfl rfl ?_
    refine op_v (v_loadA ty59 rfl rfl) rfl ?_
    refine op_want rfl rfl ?_
    refine op_v (v_loadA ty59 rfl rfl) rfl ?_
    refine op_want rfl rfl ?_
    refine op_call pl83 rfl rfl ((equal_does (ha0.mono Imm.leA) (hb0.mono Imm.leA) h1 h2 h3 h4)) Parts.none ?_
    rintro _ I13 _ hI13 ⟨rfl, rfl⟩
    refine op_v (v_pickt rfl rfl) rfl ?_
    refine op_v (v_assign rfl) rfl ?_
    refine ops_nil ?_
    refine post_next ?_
    refine code_ret ?_
    refine post_ret (rs := [.tmp 4]) rfl (List.Perm.refl _) (.cons (.tmp rfl) .nil) (List.nil_sublist _) ?_
    exact ⟨by unfold oppL; rw [e1']; rfl, rfl⟩
theorem LTrivial_does {I : Imm} {va : Value} {x : Li} (ha : RepL I va x) (h1 : x.l.size ≤ 1000000000) (h2 : x.r.size ≤ 1000000000) :
    Does Tryz.prog 105 [va] I [] (fun v _ δ' => v = .bool (decide (x.l = x.r)) ∧ δ' = []) := by
  obtain ⟨la, lc, ra, rc, rfl, hl, hr⟩ := ha
  refine Does.intro Tryz.func105 rfl Tryz.ntmps105 rfl fun w0 => ?_
  refine code_seq ?_
  refine code_region ?_
  refine o_box rfl rfl rfl (fun b1 => ?_)
  refine op_v (v_assign rfl) rfl ?_
  refine ops_nil ?_
  refine post_next ?_
  refine code_seq ?_
  refine code_region ?_
  refine op_v (v_fieldB 1 Tryz.underlying59 rfl rfl fz48 rfl) rfl ?_
  refine op_v (v_loadA ty48 rfl rfl) rfl ?_
  refine op_v (v_fieldB 3 Tryz.underlying59 rfl rfl fz48 rfl) rfl ?_
  refine op_v (v_loadA ty48 rfl rfl) rfl ?_
  refine op_call pl123 rfl rfl ((TSame_does (hl.mono Imm.leA) (hr.mono Imm.leA) h1 h2)) Parts.none ?_
  rintro _ I7 _ hI7 ⟨rfl, rfl⟩
  refine op_v (v_assign rfl) rfl ?_
  refine ops_nil ?_
  refine post_next ?_
  refine code_ret ?_
  refine post_ret (rs := [.tmp 2]) rfl (List.Perm.refl _) (.cons (.tmp rfl) .nil) (List.nil_sublist _) ?_
  exact ⟨rfl, rfl⟩
theorem Exact_does {I : Imm} {va vb : Value} {x y : Li} (ha : RepL I va x) (hb : RepL I vb y) (h1 : x.l.size ≤ 1000000000) (h2 : x.r.size ≤ 1000000000) (h3 : y.l.size ≤ 1000000000) (h4 : y.r.size ≤ 1000000000) :
    Does Tryz.prog 65 [va, vb] I [] (fun v _ δ' => v = .bool (exactL x y) ∧ δ' = []) := by
  obtain ⟨la, lc, ra, rc, rfl, hl, hr⟩ := ha
  obtain ⟨ma, mc, na, nc, rfl, kl, kr⟩ := hb
  refine Does.intro Tryz.func65 rfl Tryz.ntmps65 rfl fun w0 => ?_
  refine code_seq ?_
  refine code_region ?_
  refine o_box rfl rfl rfl (fun b2 => ?_)
  refine o_box rfl rfl rfl (fun b3 => ?_)
  refine op_v (v_assign rfl) rfl ?_
  refine ops_nil ?_
  refine post_next ?_
  refine code_seq ?_
  refine code_region ?_
  refine op_v (v_fieldB 0 Tryz.underlying59 rfl rfl fz4 rfl) rfl ?_
  refine op_v (v_loadA ty4 rfl rfl) rfl ?_
  refine op_v (v_fieldB 0 Tryz.underlying59 rfl rfl fz4 rfl) rfl ?_
  refine op_v (v_loadA ty4 rfl rfl) rfl ?_
  refine op_v (v_eqb (z := (x.neg == y.neg)) Tryz.underlying4 rfl rfl rfl) rfl ?_
  by_cases e1 : (x.neg == y.neg) = true
  · rw [e1]
    refine op_v (v_move rfl) rfl ?_
    first
      | (refine op_want rfl rfl ?_
         refine op_v (v_fieldB 1 Tryz.underlying59 rfl rfl fz48 rfl) rfl ?_)
      | (refine op_skip rfl rfl (by simp [undef]) rfl ?_)
    refine op_want rfl rfl ?_
    refine op_v (v_loadA ty48 rfl rfl) rfl ?_
    first
      | (refine op_want rfl rfl ?_
         refine op_v (v_fieldB 1 Tryz.underlying59 rfl rfl fz48 rfl) rfl ?_)
      | (refine op_skip rfl rfl (by simp [undef]) rfl ?_)
    refine op_want rfl rfl ?_
    refine op_v (v_loadA ty48 rfl rfl) rfl ?_
    refine op_want rfl rfl ?_
    refine op_call pl108 rfl rfl ((Same_does _ _ _ _ _ (hl.mono Imm.leA) (kl.mono Imm.leA) h1 h3)) Parts.none ?_
    rintro _ I15 _ hI15 ⟨rfl, rfl⟩
    by_cases e2 : x.l = y.l
    · rw [show decide (x.l = y.l) = true by simpa using e2]
      refine op_v (v_pickt rfl rfl) rfl ?_
      refine op_v (v_move rfl) rfl ?_
      first
        | (refine op_want rfl rfl ?_
           refine op_v (v_fieldB 3 Tryz.underlying59 rfl rfl fz48 rfl) rfl ?_)
        | (refine op_skip rfl rfl (by simp [undef]) rfl ?_)
      refine op_want rfl rfl ?_
      refine op_v (v_loadA ty48 rfl rfl) rfl ?_
      first
        | (refine op_want rfl rfl ?_
           refine op_v (v_fieldB 3 Tryz.underlying59 rfl rfl fz48 rfl) rfl ?_)
        | (refine op_skip rfl rfl (by simp [undef]) rfl ?_)
      refine op_want rfl rfl ?_
      refine op_v (v_loadA ty48 rfl rfl) rfl ?_
      refine op_want rfl rfl ?_
      refine op_call pl108 rfl rfl ((Same_does _ _ _ _ _ (hr.mono Imm.leA) (kr.mono Imm.leA) h2 h4)) Parts.none ?_
      rintro _ I22 _ hI22 ⟨rfl, rfl⟩
      refine op_v (v_pickt rfl rfl) rfl ?_
      refine op_v (v_assign rfl) rfl ?_
      refine ops_nil ?_
      refine post_next ?_
      refine code_ret ?_
      refine post_ret (rs := [.tmp 4]) rfl (List.Perm.refl _) (.cons (.tmp rfl) .nil) (List.nil_sublist _) ?_
      exact ⟨by unfold exactL; rw [e1, show decide (x.l = y.l) = true by simpa using e2]; rfl, rfl⟩
    · rw [show decide (x.l = y.l) = false by simpa using e2]
      refine op_v (v_pickt rfl rfl) rfl ?_
      refine op_v (v_move rfl) rfl ?_
      refine op_skip rfl rfl (by simp [undef]) rfl ?_
      refine op_skip rfl rfl (by simp [undef]) rfl ?_
      refine op_skip rfl rfl (by simp [undef]) rfl ?_
      refine op_skip rfl rfl (by simp [undef]) rfl ?_
      refine op_skip rfl rfl (by simp [undef]) rfl ?_
      refine op_v (v_pickf rfl rfl) rfl ?_
      refine op_v (v_assign rfl) rfl ?_
      refine ops_nil ?_
      refine post_next ?_
      refine code_ret ?_
      refine post_ret (rs := [.tmp 4]) rfl (List.Perm.refl _) (.cons (.tmp rfl) .nil) (List.nil_sublist _) ?_
      exact ⟨by unfold exactL; rw [e1, show decide (x.l = y.l) = false by simpa using e2]; rfl, rfl⟩
  · have e1' : (x.neg == y.neg) = false := by simpa using e1
    rw [e1']
    refine op_v (v_move rfl) rfl ?_
    refine op_skip rfl rfl (by simp [undef]) rfl ?_
    refine op_skip rfl rfl (by simp [undef]) rfl ?_
    refine op_skip rfl rfl (by simp [undef]) rfl ?_
    refine op_skip rfl rfl (by simp [undef]) rfl ?_
    refine op_skip rfl rfl (by simp [undef]) rfl ?_
    refine op_v (v_pickf rfl rfl) rfl ?_
    refine op_v (v_move rfl) rfl ?_
    refine op_skip rfl rfl (by simp [undef]) rfl ?_
    refine op_skip rfl rfl (by simp [undef]) rfl ?_
    refine op_skip rfl rfl (by simp [undef]) rfl ?_
    refine op_skip rfl rfl (by simp [undef]) rfl ?_
    refine op_skip rfl rfl (by simp [undef]) rfl ?_
    refine op_v (v_pickf rfl rfl) rfl ?_
    refine op_v (v_assign rfl) rfl ?_
    refine ops_nil ?_
    refine post_next ?_
    refine code_ret ?_
    refine post_ret (rs := [.tmp 4]) rfl (List.Perm.refl _) (.cons (.tmp rfl) .nil) (List.nil_sublist _) ?_
    exact ⟨by unfold exactL; rw [e1']; rfl, rfl⟩
theorem Turn_does {I : Imm} {va : Value} {x : Li} (ha : RepL I va x) :
    Does Tryz.prog 60 [va] I [] (fun v I' δ' => RepL I' v ⟨x.neg, x.r, x.l⟩ ∧ δ' = []) := by
  obtain ⟨la, lc, ra, rc, rfl, hl, hr⟩ := ha
  refine Does.intro Tryz.func60 rfl Tryz.ntmps60 rfl fun w0 => ?_
  refine code_seq ?_
  refine code_region ?_
  refine o_box rfl rfl rfl (fun b1 => ?_)
  refine o_alloc z59 rfl rfl (fun b2 => ?_)
  refine ops_nil ?_
  refine post_next ?_
  refine code_seq ?_
  refine code_region ?_
  refine op_v (v_fieldB 0 Tryz.underlying59 rfl rfl fz4 rfl) rfl ?_
  refine op_v (v_loadA ty4 rfl rfl) rfl ?_
  refine op_v (v_fieldB 3 Tryz.underlying59 rfl rfl fz48 rfl) rfl ?_
  refine op_v (v_loadA ty48 rfl rfl) rfl ?_
  refine op_v (v_fieldB 1 Tryz.underlying59 rfl rfl fz48 rfl) rfl ?_
  refine op_v (v_loadA ty48 rfl rfl) rfl ?_
  refine op_v (v_build bl59 rfl rfl) rfl ?_
  refine o_store ty59 rfl rfl rfl rfl rfl (by repeat (first | exact Swap.here | apply Swap.there)) rfl ?_
  refine ops_nil ?_
  refine post_next ?_
  refine code_ret ?_
  refine post_ret (rs := [.cell 2 59]) rfl (List.Perm.refl _) (.cons (.cell rfl ty59 (by repeat (first | exact Has.here | apply Has.there)) rfl) .nil) (List.nil_sublist _) ?_
  exact ⟨⟨ra, rc, la, lc, rfl, hr, hl⟩, rfl⟩
theorem row_doesL {I : Imm} {va : Value} {x : Li} (ha : RepL I va x) :
    Does Tryz.prog 85 [va] I [] (fun v I' δ' => RepS I' v (rowL x) ∧ δ' = []) := by
  obtain ⟨la, lc, ra, rc, rfl, hl, hr⟩ := ha
  refine Does.intro Tryz.func85 rfl Tryz.ntmps85 rfl fun w0 => ?_
  refine code_seq ?_
  refine code_region ?_
  refine o_box rfl rfl rfl (fun b1 => ?_)
  refine op_v (v_assign rfl) rfl ?_
  refine ops_nil ?_
  refine post_next ?_
  refine code_seq ?_
  refine code_seq ?_
  refine code_region ?_
  refine op_v (v_fieldB 0 Tryz.underlying59 rfl rfl fz4 rfl) rfl ?_
  refine op_v (v_loadA ty4 rfl rfl) rfl ?_
  refine ops_nil ?_
  refine post_next ?_
  refine code_cond rfl (fun hc0 => ?_) (fun hc0 => ?_)
  · have hn : x.neg = true := hc0
    refine code_seq ?_
    refine code_region ?_
    refine op_v (v_fieldB 1 Tryz.underlying59 rfl rfl fz48 rfl) rfl ?_
    refine op_v (v_loadA ty48 rfl rfl) rfl ?_
    refine op_v (v_fieldB 1 Tryz.underlying59 rfl rfl fz48 rfl) rfl ?_
    refine op_v (v_loadA ty48 rfl rfl) rfl ?_
    refine op_v (v_fieldB 3 Tryz.underlying59 rfl rfl fz48 rfl) rfl ?_
    refine op_v (v_loadA ty48 rfl rfl) rfl ?_
    refine op_v (v_fieldB 3 Tryz.underlying59 rfl rfl fz48 rfl) rfl ?_
    refine op_v (v_loadA ty48 rfl rfl) rfl ?_
    refine o_buildSlice (xs := [(Go.Operand.tmp 6), (Go.Operand.tmp 8), (Go.Operand.tmp 10), (Go.Operand.tmp 12)]) Tryz.underlying46 bs48 rfl rfl rfl rfl rfl (fun b13 => ?_)
    refine OpsJ.freezeRow Del.here ?_
    rintro I13 a13 c13 hI13 hq hc13 hl13 hcells13
    cases hq
    refine op_v (v_assign rfl) rfl ?_
    refine ops_nil ?_
    refine post_next ?_
    refine code_ret ?_
    refine post_ret_then ?_
    refine post_ret (rs := [.tmp 2]) rfl (List.Perm.refl _) (.cons (.tmp rfl) .nil) (List.nil_sublist _) ?_
    exact ⟨by unfold rowL; rw [if_pos hn]; exact RowT.repS (ts := [x.l, x.l, x.r, x.r]) rfl hcells13 ((RowT.one (hl.mono Imm.leA)).app ((RowT.one (hl.mono Imm.leA)).app ((RowT.one (hr.mono Imm.leA)).app (RowT.one (hr.mono Imm.leA))))) hc13 (by omega), rfl⟩
  · have hn : ¬ x.neg = true := by rw [hc0]; simp
    refine code_skip ?_
    refine post_next ?_
    refine code_seq ?_
    refine code_region ?_
    refine op_v (v_fieldB 1 Tryz.underlying59 rfl rfl fz48 rfl) rfl ?_
    refine op_v (v_loadA ty48 rfl rfl) rfl ?_
    refine op_v (v_fieldB 3 Tryz.underlying59 rfl rfl fz48 rfl) rfl ?_
    refine op_v (v_loadA ty48 rfl rfl) rfl ?_
    refine o_buildSlice (xs := [(Go.Operand.tmp 15), (Go.Operand.tmp 17)]) Tryz.underlying46 bs48 rfl rfl rfl rfl rfl (fun b18 => ?_)
    refine OpsJ.freezeRow Del.here ?_
    rintro I18 a18 c18 hI18 hq hc18 hl18 hcells18
    cases hq
    refine op_v (v_assign rfl) rfl ?_
    refine ops_nil ?_
    refine post_next ?_
    refine code_ret ?_
    refine post_ret (rs := [.tmp 2]) rfl (List.Perm.refl _) (.cons (.tmp rfl) .nil) (List.nil_sublist _) ?_
    exact ⟨by unfold rowL; rw [if_neg hn]; exact RowT.repS (ts := [x.l, x.r]) rfl hcells18 ((RowT.one (hl.mono Imm.leA)).app (RowT.one (hr.mono Imm.leA))) hc18 (by omega), rfl⟩
end Go.Proofs.YtdbadicpbmndbaaGreat
/- Clauses, plainly: what is left of one behind Tidy. Walks: whether one of a row of literals is so; two clauses, literal by literal. -/
set_option linter.unusedVariables false
set_option linter.unusedSimpArgs false
set_option linter.unnecessarySimpa false
/- short -/
namespace Go.Proofs.YtdbadicpbmndbaaGreat
open Go Lg

/-! ### plain -/
def trivL (x : Li) : Bool := decide (x.l = x.r)
theorem eqL_iff {x y : Li} : eqL x y = true ↔ (x.l = y.l ∧ x.r = y.r) ∨ (x.l = y.r ∧ x.r = y.l) := by
  unfold eqL
  simp only [Bool.or_eq_true, Bool.and_eq_true, decide_eq_true_eq]
theorem sameL_iff {x y : Li} : sameL x y = true ↔ x.neg = y.neg ∧ ((x.l = y.l ∧ x.r = y.r) ∨ (x.l = y.r ∧ x.r = y.l)) := by
  unfold sameL
  rw [Bool.and_eq_true, eqL_iff, beq_iff_eq]
theorem sameL_refl (x : Li) : sameL x x = true := sameL_iff.2 ⟨rfl, .inl ⟨rfl, rfl⟩⟩
theorem sameL_symm {x y : Li} (h : sameL x y = true) : sameL y x = true := by
  obtain ⟨h1, h2 | h2⟩ := sameL_iff.1 h
  · exact sameL_iff.2 ⟨h1.symm, .inl ⟨h2.1.symm, h2.2.symm⟩⟩
  · exact sameL_iff.2 ⟨h1.symm, .inr ⟨h2.2.symm, h2.1.symm⟩⟩
theorem sameL_trans {x y z : Li} (h : sameL x y = true) (k : sameL y z = true) : sameL x z = true := by
  obtain ⟨h1, h2⟩ := sameL_iff.1 h
  obtain ⟨k1, k2⟩ := sameL_iff.1 k
  refine sameL_iff.2 ⟨h1.trans k1, ?_⟩
  rcases h2 with ⟨a, b⟩ | ⟨a, b⟩ <;> rcases k2 with ⟨c, d⟩ | ⟨c, d⟩
  · exact .inl ⟨a.trans c, b.trans d⟩
  · exact .inr ⟨a.trans c, b.trans d⟩
  · exact .inr ⟨a.trans d, b.trans c⟩
  · exact .inl ⟨a.trans d, b.trans c⟩
theorem exactL_iff {x y : Li} : exactL x y = true ↔ x = y := by
  unfold exactL
  rw [Bool.and_eq_true, Bool.and_eq_true, decide_eq_true_eq, decide_eq_true_eq, beq_iff_eq]
  constructor
  · rintro ⟨h1, h2, h3⟩; cases x; cases y; simp_all
  · rintro rfl; exact ⟨rfl, rfl, rfl⟩
/-- what is not left -/
def goneL (acc : List Li) (x : Li) : Bool := acc.any (fun m => sameL x m) || (x.neg && trivL x)
def tidyGo (acc : List Li) : List Li → List Li
  | [] => acc
  | x :: r => tidyGo (if goneL acc x = true then acc else acc ++ [x]) r
def tidyL (c : List Li) : List Li := tidyGo [] c
theorem tidyGo_app (acc a b : List Li) : tidyGo acc (a ++ b) = tidyGo (tidyGo acc a) b := by
  induction a generalizing acc with
  | nil => rfl
  | cons x r ih => exact ih _
theorem tidyGo_len (acc c : List Li) : (tidyGo acc c).length ≤ acc.length + c.length := by
  induction c generalizing acc with
  | nil => simp [tidyGo]
  | cons x r ih =>
    have := ih (if goneL acc x = true then acc else acc ++ [x])
    show (tidyGo (if goneL acc x = true then acc else acc ++ [x]) r).length ≤ _
    split at this
    · rename_i h; rw [if_pos h]; simp only [List.length_cons]; omega
    · rename_i h; rw [if_neg h]; simp only [List.length_cons, List.length_append, List.length_nil] at this ⊢; omega
theorem tidyGo_mem (acc c : List Li) : ∀ x ∈ tidyGo acc c, x ∈ acc ∨ x ∈ c := by
  induction c generalizing acc with
  | nil => intro x hx; exact .inl hx
  | cons y r ih =>
    intro x hx
    rcases ih _ x hx with h | h
    · split at h
      · exact .inl h
      · rcases List.mem_append.1 h with h | h
        · exact .inl h
        · simp at h; subst h; exact .inr (List.mem_cons_self ..)
    · exact .inr (List.mem_cons_of_mem _ h)
def TidyOK (t : List Li) : Prop := ∀ i (hi : i < t.length), goneL (t.take i) t[i] = false
theorem TidyOK.push {t : List Li} {x : Li} (h : TidyOK t) (hx : goneL t x = false) : TidyOK (t ++ [x]) := fun i hi => by
  by_cases q : i < t.length
  · rw [List.getElem_append_left q, List.take_append_of_le_length (by omega)]; exact h i q
  · have : i = t.length := by simp at hi; omega
    subst this
    rw [List.getElem_append_right (by omega), List.take_left]; simpa using hx
theorem TidyOK.same {t : List Li} (h : TidyOK t) {i j : Nat} (hi : i < t.length) (hij : j < i) : sameL t[i] (t[j]'(by omega)) = false := by
  have := h i hi
  unfold goneL at this
  rw [Bool.or_eq_false_iff] at this
  have h1 := List.any_eq_false.1 this.1 (t[j]'(by omega)) (List.mem_take_iff_getElem.2 ⟨j, by omega, rfl⟩)
  simpa using h1
theorem tidyGo_succ (c : List Li) (k : Nat) (h : k < c.length) : tidyGo [] (c.take (k + 1)) = if goneL (tidyGo [] (c.take k)) c[k] = true then tidyGo [] (c.take k) else tidyGo [] (c.take k) ++ [c[k]] := by
  rw [List.take_succ_eq_append_getElem h, tidyGo_app]; rfl
/-! ### walks -/
/-- a function of a literal -/
abbrev LitP (P : Program) (fv : Value) (I : Imm) (δf : List Ent) (c : List Li) (p : Li → Bool) : Prop := ∀ J x u, I.le J → LitE.R J x u → x ∈ c → FDoes P fv [.agg u.toArray] J δf (fun v _ δ' => v = .bool (p x) ∧ δ' = δf)
def IdxH (c : List Li) (p : Li → Bool) (n : Int) : Prop := (n = -1 ∧ c.any p = false) ∨ ∃ (j : Nat) (h : j < c.length), n = j ∧ p c[j] = true ∧ (c.take j).any p = false
theorem IdxH.any {c : List Li} {p : Li → Bool} {n : Int} (h : IdxH c p n) : decide (0 ≤ n) = c.any p := by
  rcases h with ⟨rfl, h⟩ | ⟨j, hj, rfl, h, _⟩
  · rw [h]; rfl
  · rw [show c.any p = true from List.any_eq_true.2 ⟨c[j], List.getElem_mem hj, h⟩]; simp
theorem IdxC_does {I : Imm} {v fv : Value} {c : List Li} {δf : List Ent} {p : Li → Bool} (hv : RepC I v c) (hf : LitP Tryz.prog fv I δf c p) :
    Does Tryz.prog 73 [v, fv] I δf (fun v _ δ' => (∃ n : Int, v = .int .i64 n ∧ IdxH c p n) ∧ δ' = δf) := by
  obtain ⟨ad, c0, xs, rfl, hc, hb, hcells, hrow⟩ := hv
  refine Does.intro Tryz.func73 rfl Tryz.ntmps73 rfl fun w0 => ?_
  refine code_seq ?_
  refine code_region ?_
  refine op_v (v_assign rfl) rfl ?_
  refine ops_nil ?_
  refine post_next ?_
  refine code_seq ?_
  refine code_seq ?_
  refine code_region ?_
  refine op_v (v_move rfl) rfl ?_
  refine op_v (v_len Tryz.underlying23 rfl) rfl ?_
  refine op_v (v_move rfl) rfl ?_
  refine ops_nil ?_
  refine post_next ?_
  refine code_block ?_
  refine code_loop (fun m σ' I' δ' => ∃ k : Nat, m = c.length - k ∧ k ≤ c.length ∧ σ' = [(0, .slice ad c.length c0), (1, fv), (7, .int .i64 c.length), (8, .int .i64 k)] ∧ I.le I' ∧ δ' = δf ∧ (c.take k).any p = false) c.length [(0, .slice ad c.length c0), (1, fv), (7, .int .i64 c.length), (8, .int .i64 (0 : Nat))] ⟨0, rfl, Nat.zero_le _, rfl, Imm.le_refl _, rfl, rfl⟩ ⟨rfl, rfl, rfl, rfl, trivial⟩ ?_
  rintro m _ I0 _ ⟨k, rfl, hk, rfl, hI0, rfl, hp⟩
  refine code_seq ?_
  refine code_region ?_
  refine op_v (v_cmp rfl rfl rfl) rfl ?_
  refine ops_nil ?_
  refine post_next ?_
  refine code_seq ?_
  refine code_cond rfl (fun hc0 => ?_) (fun hc0 => ?_)
  · have hlt : k < c.length := by simpa using hc0
    obtain ⟨vs, ⟨la, lc, ra, rc, rfl, hl, hr⟩, hat⟩ := hrow.cellsAt hcells hlt
    have hs1 := hat.isSome
    refine code_skip ?_
    refine post_next ?_
    refine code_seq ?_
    refine code_block ?_
    refine code_seq ?_
    refine code_region ?_
    refine op_v (v_move rfl) rfl ?_
    refine op_v (v_assign rfl) rfl ?_
    refine ops_nil ?_
    refine post_next ?_
    refine code_seq ?_
    refine code_region ?_
    refine op_v (v_move rfl) rfl ?_
    refine op_v (v_move rfl) rfl ?_
    refine op_v (v_move rfl) rfl ?_
    refine op_v (v_indexA Tryz.underlying23 sz59 rfl rfl) rfl ?_
    refine op_v (v_loadI0 ty59 (hat.mono hI0) rfl rfl rfl) rfl ?_
    refine op_fcall rfl rfl rfl ((hf _ c[k] (liC c[k] la lc ra rc) hI0 ⟨la, lc, ra, rc, rfl, hl.mono hI0, hr.mono hI0⟩ (List.getElem_mem hlt))) Parts.all ?_
    rintro v16 I16 _ hI16 ⟨rfl, rfl⟩
    rw [List.append_nil]
    refine ops_nil ?_
    refine post_next ?_
    refine code_cond rfl (fun hc1 => ?_) (fun hc1 => ?_)
    · refine code_seq ?_
      refine code_region ?_
      refine op_v (v_move rfl) rfl ?_
      refine op_v (v_assign rfl) rfl ?_
      refine ops_nil ?_
      refine post_next ?_
      refine code_ret ?_
      refine post_ret_block ?_
      refine post_ret_then ?_
      refine post_ret_then ?_
      refine post_ret_block ?_
      refine post_ret_then ?_
      refine post_ret (rs := [.tmp 4]) rfl (List.Perm.refl _) (.cons (.tmp rfl) .nil) (List.Sublist.refl _) ?_
      exact ⟨⟨k, rfl, .inr ⟨k, hlt, rfl, hc1, hp⟩⟩, rfl⟩
    · refine code_skip ?_
      refine post_out ?_
      refine post_next ?_
      refine code_region ?_
      refine op_v (v_addb rfl rfl rfl (by omega)) rfl ?_
      refine op_v (v_move rfl) rfl ?_
      refine ops_nil ?_
      refine post_again (c.length - (k + 1)) [(0, .slice ad c.length c0), (1, fv), (7, .int .i64 c.length), (8, .int .i64 (k + 1 : Nat))] (by omega) ⟨k + 1, rfl, hlt, rfl, Imm.le_trans hI0 hI16, rfl, by rw [List.take_succ_eq_append_getElem hlt, List.any_append, hp]; simp [hc1]⟩ ⟨rfl, rfl, rfl, rfl, trivial⟩
  · have hge : k = c.length := by simp at hc0; omega
    subst hge
    rw [List.take_length] at hp
    refine code_exit ?_
    refine post_exit_then ?_
    refine post_exit_then ?_
    refine post_exit ?_
    refine post_next ?_
    refine code_seq ?_
    refine code_region ?_
    refine op_v (v_assign rfl) rfl ?_
    refine ops_nil ?_
    refine post_next ?_
    refine code_ret ?_
    refine post_ret (rs := [.tmp 4]) rfl (List.Perm.refl _) (.cons (.tmp rfl) .nil) (List.Sublist.refl _) ?_
    exact ⟨⟨-1, rfl, .inl ⟨rfl, hp⟩⟩, rfl⟩
abbrev cRow (A : Option Addr) (c : Nat) (n : Nat) (xs : List Value) : Ent := .row (.slice A n c) 59 5 n xs
theorem IdxR_doesC {I : Imm} {fv : Value} {A : Option Addr} {c0 : Nat} {c : List Li} {xs : List Value} {δf : List Ent} {p : Li → Bool} (hrow : RowE LitE I xs c) (hb : c.length ≤ 1954687338211) (hf : LitP Tryz.prog fv I δf c p) :
    Does Tryz.prog 73 [.slice A c.length c0, fv] I (cRow A c0 c.length xs :: δf) (fun v _ δ' => (∃ n : Int, v = .int .i64 n ∧ IdxH c p n) ∧ δ' = cRow A c0 c.length xs :: δf) := by
  refine Does.intro Tryz.func73 rfl Tryz.ntmps73 rfl fun w0 => ?_
  refine code_seq ?_
  refine code_region ?_
  refine op_v (v_assign rfl) rfl ?_
  refine ops_nil ?_
  refine post_next ?_
  refine code_seq ?_
  refine code_seq ?_
  refine code_region ?_
  refine op_v (v_move rfl) rfl ?_
  refine op_v (v_len Tryz.underlying23 rfl) rfl ?_
  refine op_v (v_move rfl) rfl ?_
  refine ops_nil ?_
  refine post_next ?_
  refine code_block ?_
  refine code_loop (fun m σ' I' δ' => ∃ k : Nat, m = c.length - k ∧ k ≤ c.length ∧ σ' = [(0, .slice A c.length c0), (1, fv), (7, .int .i64 c.length), (8, .int .i64 k)] ∧ I.le I' ∧ δ' = cRow A c0 c.length xs :: δf ∧ (c.take k).any p = false) c.length [(0, .slice A c.length c0), (1, fv), (7, .int .i64 c.length), (8, .int .i64 (0 : Nat))] ⟨0, rfl, Nat.zero_le _, rfl, Imm.le_refl _, rfl, rfl⟩ ⟨rfl, rfl, rfl, rfl, trivial⟩ ?_
  rintro m _ I0 _ ⟨k, rfl, hk, rfl, hI0, rfl, hp⟩
  refine code_seq ?_
  refine code_region ?_
  refine op_v (v_cmp rfl rfl rfl) rfl ?_
  refine ops_nil ?_
  refine post_next ?_
  refine code_seq ?_
  refine code_cond rfl (fun hc0 => ?_) (fun hc0 => ?_)
  · have hlt : k < c.length := by simpa using hc0
    obtain ⟨vs, ⟨la, lc, ra, rc, rfl, hl, hr⟩, _, r, hdrop⟩ := hrow.at hlt
    refine code_skip ?_
    refine post_next ?_
    refine code_seq ?_
    refine code_block ?_
    refine code_seq ?_
    refine code_region ?_
    refine op_v (v_move rfl) rfl ?_
    refine op_v (v_assign rfl) rfl ?_
    refine ops_nil ?_
    refine post_next ?_
    refine code_seq ?_
    refine code_region ?_
    refine op_v (v_move rfl) rfl ?_
    refine op_v (v_move rfl) rfl ?_
    refine op_v (v_move rfl) rfl ?_
    refine OpsJ.rowSome Has.here (by omega) (fun hA hcr => ?_)
    refine op_v (v_indexA Tryz.underlying23 sz59 rfl rfl) rfl ?_
    refine op_v (v_loadRow (v := .agg (liC c[k] la lc ra rc).toArray) ty59 rfl Has.here hA (by rw [hdrop]; rfl)) rfl ?_
    refine op_fcall rfl rfl rfl ((hf _ c[k] (liC c[k] la lc ra rc) hI0 ⟨la, lc, ra, rc, rfl, hl.mono hI0, hr.mono hI0⟩ (List.getElem_mem hlt))) (List.perm_append_comm (l₁ := [_])) ?_
    rintro v16 I16 _ hI16 ⟨rfl, rfl⟩
    refine OpsJ.view (View.perm (List.perm_append_comm (l₂ := [_]))) ?_
    refine ops_nil ?_
    refine post_next ?_
    refine code_cond rfl (fun hc1 => ?_) (fun hc1 => ?_)
    · refine code_seq ?_
      refine code_region ?_
      refine op_v (v_move rfl) rfl ?_
      refine op_v (v_assign rfl) rfl ?_
      refine ops_nil ?_
      refine post_next ?_
      refine code_ret ?_
      refine post_ret_block ?_
      refine post_ret_then ?_
      refine post_ret_then ?_
      refine post_ret_block ?_
      refine post_ret_then ?_
      refine post_ret (rs := [.tmp 4]) rfl (List.Perm.refl _) (.cons (.tmp rfl) .nil) (List.Sublist.refl _) ?_
      exact ⟨⟨k, rfl, .inr ⟨k, hlt, rfl, hc1, hp⟩⟩, rfl⟩
    · refine code_skip ?_
      refine post_out ?_
      refine post_next ?_
      refine code_region ?_
      refine op_v (v_addb rfl rfl rfl (by omega)) rfl ?_
      refine op_v (v_move rfl) rfl ?_
      refine ops_nil ?_
      refine post_again (c.length - (k + 1)) [(0, .slice A c.length c0), (1, fv), (7, .int .i64 c.length), (8, .int .i64 (k + 1 : Nat))] (by omega) ⟨k + 1, rfl, hlt, rfl, Imm.le_trans hI0 hI16, rfl, by rw [List.take_succ_eq_append_getElem hlt, List.any_append, hp]; simp [hc1]⟩ ⟨rfl, rfl, rfl, rfl, trivial⟩
  · have hge : k = c.length := by simp at hc0; omega
    subst hge
    rw [List.take_length] at hp
    refine code_exit ?_
    refine post_exit_then ?_
    refine post_exit_then ?_
    refine post_exit ?_
    refine post_next ?_
    refine code_seq ?_
    refine code_region ?_
    refine op_v (v_assign rfl) rfl ?_
    refine ops_nil ?_
    refine post_next ?_
    refine code_ret ?_
    refine post_ret (rs := [.tmp 4]) rfl (List.Perm.refl _) (.cons (.tmp rfl) .nil) (List.Sublist.refl _) ?_
    exact ⟨⟨-1, rfl, .inl ⟨rfl, hp⟩⟩, rfl⟩
theorem ContC_does {I : Imm} {v fv : Value} {c : List Li} {δf : List Ent} {p : Li → Bool} (hv : RepC I v c) (hf : LitP Tryz.prog fv I δf c p) :
    Does Tryz.prog 86 [v, fv] I δf (fun v _ δ' => v = .bool (c.any p) ∧ δ' = δf) := by
  refine Does.intro Tryz.func86 rfl Tryz.ntmps86 rfl fun w0 => ?_
  refine code_seq ?_
  refine code_region ?_
  refine op_v (v_assign rfl) rfl ?_
  refine ops_nil ?_
  refine post_next ?_
  refine code_seq ?_
  refine code_region ?_
  refine op_v (v_move rfl) rfl ?_
  refine op_v (v_move rfl) rfl ?_
  refine op_call pl73 rfl rfl ((IdxC_does hv hf)) Parts.all ?_
  rintro v7 I7 _ hI7 ⟨⟨n, rfl, hn⟩, rfl⟩
  rw [List.append_nil]
  refine op_v (v_cmp (z := c.any p) rfl rfl (by rw [← hn.any]; rfl)) rfl ?_
  refine op_v (v_assign rfl) rfl ?_
  refine ops_nil ?_
  refine post_next ?_
  refine code_ret ?_
  refine post_ret (rs := [.tmp 4]) rfl (List.Perm.refl _) (.cons (.tmp rfl) .nil) (List.Sublist.refl _) ?_
  exact ⟨rfl, rfl⟩
theorem ContR_doesC {I : Imm} {fv : Value} {A : Option Addr} {c0 : Nat} {c : List Li} {xs : List Value} {δf : List Ent} {p : Li → Bool} (hrow : RowE LitE I xs c) (hb : c.length ≤ 1954687338211) (hf : LitP Tryz.prog fv I δf c p) :
    Does Tryz.prog 86 [.slice A c.length c0, fv] I (cRow A c0 c.length xs :: δf) (fun v _ δ' => v = .bool (c.any p) ∧ δ' = cRow A c0 c.length xs :: δf) := by
  refine Does.intro Tryz.func86 rfl Tryz.ntmps86 rfl fun w0 => ?_
  refine code_seq ?_
  refine code_region ?_
  refine op_v (v_assign rfl) rfl ?_
  refine ops_nil ?_
  refine post_next ?_
  refine code_seq ?_
  refine code_region ?_
  refine op_v (v_move rfl) rfl ?_
  refine op_v (v_move rfl) rfl ?_
  refine op_call pl73 rfl rfl ((IdxR_doesC hrow hb hf)) Parts.all ?_
  rintro v7 I7 _ hI7 ⟨⟨n, rfl, hn⟩, rfl⟩
  rw [List.append_nil]
  refine op_v (v_cmp (z := c.any p) rfl rfl (by rw [← hn.any]; rfl)) rfl ?_
  refine op_v (v_assign rfl) rfl ?_
  refine ops_nil ?_
  refine post_next ?_
  refine code_ret ?_
  refine post_ret (rs := [.tmp 4]) rfl (List.Perm.refl _) (.cons (.tmp rfl) .nil) (List.Sublist.refl _) ?_
  exact ⟨rfl, rfl⟩
end Go.Proofs.YtdbadicpbmndbaaGreat
