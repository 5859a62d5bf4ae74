/- Own texts, one behind the other: rules of a small program logic, walks through the program's functions, plain facts. No condition. -/
import Derived.Test.YtdbadicpbmndbaaGreatZ3
/- Walks: whether a literal is one of a signature; how two stand. -/
set_option linter.unusedVariables false
set_option linter.unusedSimpArgs false
set_option linter.unnecessarySimpa false
/- short -/
namespace Go.Proofs.YtdbadicpbmndbaaGreat
open Go Lg

def trL (gs : List Sy) (t : T) : Bool := decide (0 ≤ t.head) && trG gs t.head
def sortL (gs : List Sy) (x : Li) : Bool := (trL gs x.l && decide (x.r.head ≠ 0)) || (!trL gs x.l && trL gs x.r)
def litG (gs : List Sy) (x : Li) : Int := if termG gs x.l ≠ 0 then termG gs x.l else if termG gs x.r ≠ 0 then termG gs x.r else if sortL gs x = true then 10 else 0
theorem litG_ok {gs : List Sy} {x : Li} (h : litG gs x = 0) : OkG gs x.l ∧ OkG gs x.r := by
  unfold litG at h
  by_cases h1 : termG gs x.l = 0
  · by_cases h2 : termG gs x.r = 0
    · exact ⟨termG_ok.1 h1, termG_ok.1 h2⟩
    · rw [if_neg (by omega), if_pos h2] at h; exact absurd h h2
  · rw [if_pos h1] at h; exact absurd h h1
theorem left_does {I : Imm} {vg : Value} {gs : List Sy} {x : Li} {la ra : Option Addr} {lc rc : Nat} (hg : RepG I vg gs) (hl : RepT I (.agg #[.int .i64 x.l.head, .slice la x.l.args.length lc]) x.l) (h1 : x.l.size ≤ 1000000000) :
    Does Tryz.prog 112 [.agg #[vg, .bool x.neg, .int .i64 x.l.head, .slice la x.l.args.length lc, .int .i64 x.r.head, .slice ra x.r.args.length rc]] I [] (fun v _ δ' => v = .int .i64 (termG gs x.l) ∧ δ' = []) := by
  obtain ⟨ga, gc, rfl⟩ := hg.shape
  refine Does.intro Tryz.func112 rfl Tryz.ntmps112 rfl fun w0 => ?_
  refine code_seq ?_
  refine code_region ?_
  refine o_box rfl rfl rfl (fun b1 => ?_)
  refine op_v (v_assign rfl) rfl ?_
  refine ops_nil ?_
  refine post_next ?_
  refine code_seq ?_
  refine code_region ?_
  refine op_v (v_fieldB 0 Tryz.underlying124 rfl rfl fz22 rfl) rfl ?_
  refine op_v (v_loadA ty22 rfl rfl) rfl ?_
  refine op_v (v_fieldB 1 Tryz.underlying124 rfl rfl fz59 rfl) rfl ?_
  refine op_v (v_fieldB 1 Tryz.underlying59 rfl rfl fz48 rfl) rfl ?_
  refine op_v (v_loadA ty48 rfl rfl) rfl ?_
  refine op_call pl137 rfl rfl ((GTerm_does (hg.mono Imm.leA) (hl.mono Imm.leA) h1)) Parts.none ?_
  rintro _ I8 _ hI8 ⟨rfl, rfl⟩
  refine op_v (v_assign rfl) rfl ?_
  refine ops_nil ?_
  refine post_next ?_
  refine code_ret ?_
  refine post_ret (rs := [.tmp 2]) rfl (List.Perm.refl _) (.cons (.tmp rfl) .nil) (List.nil_sublist _) ?_
  exact ⟨rfl, rfl⟩
theorem right_does {I : Imm} {vg : Value} {gs : List Sy} {x : Li} {la ra : Option Addr} {lc rc : Nat} (hg : RepG I vg gs) (hl : RepT I (.agg #[.int .i64 x.r.head, .slice ra x.r.args.length rc]) x.r) (h1 : x.r.size ≤ 1000000000) :
    Does Tryz.prog 113 [.agg #[vg, .bool x.neg, .int .i64 x.l.head, .slice la x.l.args.length lc, .int .i64 x.r.head, .slice ra x.r.args.length rc]] I [] (fun v _ δ' => v = .int .i64 (termG gs x.r) ∧ δ' = []) := by
  obtain ⟨ga, gc, rfl⟩ := hg.shape
  refine Does.intro Tryz.func113 rfl Tryz.ntmps113 rfl fun w0 => ?_
  refine code_seq ?_
  refine code_region ?_
  refine o_box rfl rfl rfl (fun b1 => ?_)
  refine op_v (v_assign rfl) rfl ?_
  refine ops_nil ?_
  refine post_next ?_
  refine code_seq ?_
  refine code_region ?_
  refine op_v (v_fieldB 0 Tryz.underlying124 rfl rfl fz22 rfl) rfl ?_
  refine op_v (v_loadA ty22 rfl rfl) rfl ?_
  refine op_v (v_fieldB 1 Tryz.underlying124 rfl rfl fz59 rfl) rfl ?_
  refine op_v (v_fieldB 3 Tryz.underlying59 rfl rfl fz48 rfl) rfl ?_
  refine op_v (v_loadA ty48 rfl rfl) rfl ?_
  refine op_call pl137 rfl rfl ((GTerm_does (hg.mono Imm.leA) (hl.mono Imm.leA) h1)) Parts.none ?_
  rintro _ I8 _ hI8 ⟨rfl, rfl⟩
  refine op_v (v_assign rfl) rfl ?_
  refine ops_nil ?_
  refine post_next ?_
  refine code_ret ?_
  refine post_ret (rs := [.tmp 2]) rfl (List.Perm.refl _) (.cons (.tmp rfl) .nil) (List.nil_sublist _) ?_
  exact ⟨rfl, rfl⟩
theorem truth_does {I : Imm} {vg v : Value} {gs : List Sy} {t : T} {cs : List Value} (hg : RepG I vg gs) (hv : RepT I v t) (h5 : ∃ a b c d e, cs = [a, b, c, d, e]) (hh : 0 ≤ t.head → t.head < gs.length) :
    Does Tryz.prog 138 [.agg (vg :: cs).toArray, v] I [] (fun v _ δ' => v = .bool (trL gs t) ∧ δ' = []) := by
  obtain ⟨a, b, c, d, e, rfl⟩ := h5
  obtain ⟨ga, gc, rfl⟩ := hg.shape
  obtain ⟨_, hgc, hgb, hgat, hgok⟩ := hg.open
  obtain ⟨a0, c0, rfl, hr0⟩ := hv.shape
  refine Does.intro Tryz.func138 rfl Tryz.ntmps138 rfl fun w0 => ?_
  refine code_seq ?_
  refine code_region ?_
  refine o_box rfl rfl rfl (fun b2 => ?_)
  refine o_box rfl rfl rfl (fun b3 => ?_)
  refine op_v (v_assign rfl) rfl ?_
  refine ops_nil ?_
  refine post_next ?_
  refine code_seq ?_
  refine code_region ?_
  refine op_v (v_fieldB 0 Tryz.underlying48 rfl rfl fz3 rfl) rfl ?_
  refine op_v (v_loadA ty3 rfl rfl) rfl ?_
  by_cases h7 : 0 ≤ t.head
  · have hl0 := hh h7
    have hlt0 : t.head.toNat < gs.length := by omega
    have hs0 := (hgat _ hlt0).isSome
    refine op_v (v_cmptA rfl rfl rfl) rfl ?_
    refine op_v (v_move rfl) rfl ?_
    first
      | (refine op_want rfl rfl ?_
         refine op_v (v_fieldB 0 Tryz.underlying124 rfl rfl fz22 rfl) rfl ?_)
      | (refine op_skip rfl rfl (by simp [undef]) rfl ?_)
    refine op_want rfl rfl ?_
    refine op_v (v_loadA ty22 rfl rfl) rfl ?_
    first
      | (refine op_want rfl rfl ?_
         refine op_v (v_fieldB 0 Tryz.underlying48 rfl rfl fz3 rfl) rfl ?_)
      | (refine op_skip rfl rfl (by simp [undef]) rfl ?_)
    refine op_want rfl rfl ?_
    refine op_v (v_loadA ty3 rfl rfl) rfl ?_
    refine op_want rfl rfl ?_
    refine op_v (v_indexIA Tryz.underlying22 sz85 rfl rfl) rfl ?_
    first
      | (refine op_want rfl rfl ?_
         refine op_v (v_fieldI 3 Tryz.underlying85 rfl rfl fz4 rfl (by assumption)) rfl ?_)
      | (refine op_skip rfl rfl (by simp [undef]) rfl ?_)
    refine op_want rfl rfl ?_
    refine op_v (v_loadI ty4 (hgat _ hlt0) rfl rfl rfl) rfl ?_
    refine op_v (v_pickt rfl rfl) rfl ?_
    refine op_v (v_assign rfl) rfl ?_
    refine ops_nil ?_
    refine post_next ?_
    refine code_ret ?_
    refine post_ret (rs := [.tmp 4]) rfl (List.Perm.refl _) (.cons (.tmp rfl) .nil) (List.nil_sublist _) ?_
    exact ⟨by simp [outV, trL, h7, trG_at h7 hl0], rfl⟩
  · refine op_v (v_cmpfA rfl rfl rfl) rfl ?_
    refine op_v (v_move rfl) rfl ?_
    refine op_skip rfl rfl (by simp [undef]) rfl ?_
    refine op_skip rfl rfl (by simp [undef]) rfl ?_
    refine op_skip rfl rfl (by simp [undef]) rfl ?_
    refine op_skip rfl rfl (by simp [undef]) rfl ?_
    refine op_skip rfl rfl (by simp [undef]) rfl ?_
    refine op_skip rfl rfl (by simp [undef]) rfl ?_
    refine op_skip rfl rfl (by simp [undef]) rfl ?_
    refine op_v (v_pickf rfl rfl) rfl ?_
    refine op_v (v_assign rfl) rfl ?_
    refine ops_nil ?_
    refine post_next ?_
    refine code_ret ?_
    refine post_ret (rs := [.tmp 4]) rfl (List.Perm.refl _) (.cons (.tmp rfl) .nil) (List.nil_sublist _) ?_
    exact ⟨by simp [outV, trL, h7], rfl⟩
theorem sorts_does {I : Imm} {vg : Value} {gs : List Sy} {x : Li} {la ra : Option Addr} {lc rc : Nat} (hg : RepG I vg gs) (hl : RepT I (.agg #[.int .i64 x.l.head, .slice la x.l.args.length lc]) x.l) (hr : RepT I (.agg #[.int .i64 x.r.head, .slice ra x.r.args.length rc]) x.r) (h1 : 0 ≤ x.l.head → x.l.head < gs.length) (h2 : 0 ≤ x.r.head → x.r.head < gs.length) :
    Does Tryz.prog 114 [.agg #[vg, .bool x.neg, .int .i64 x.l.head, .slice la x.l.args.length lc, .int .i64 x.r.head, .slice ra x.r.args.length rc]] I [] (fun v _ δ' => v = .int .i64 (if sortL gs x = true then 10 else 0) ∧ δ' = []) := by
  obtain ⟨ga, gc, rfl⟩ := hg.shape
  refine Does.intro Tryz.func114 rfl Tryz.ntmps114 rfl fun w0 => ?_
  refine code_seq ?_
  refine code_region ?_
  refine o_box rfl rfl rfl (fun b1 => ?_)
  refine op_v (v_assign rfl) rfl ?_
  refine ops_nil ?_
  refine post_next ?_
  refine code_seq ?_
  refine code_region ?_
  refine op_v (v_load6 ty124 rfl rfl) rfl ?_
  refine op_v (v_fieldB 1 Tryz.underlying124 rfl rfl fz59 rfl) rfl ?_
  refine op_v (v_fieldB 1 Tryz.underlying59 rfl rfl fz48 rfl) rfl ?_
  refine op_v (v_loadA ty48 rfl rfl) rfl ?_
  refine op_call pl138 rfl rfl ((truth_does (cs := liC x la lc ra rc) (hg.mono Imm.leA) (hl.mono Imm.leA) ⟨_, _, _, _, _, rfl⟩ h1)) Parts.none ?_
  rintro _ I8 _ hI8 ⟨rfl, rfl⟩
  refine op_v (v_assign rfl) rfl ?_
  refine ops_nil ?_
  refine post_next ?_
  refine code_seq ?_
  refine code_seq ?_
  refine code_region ?_
  by_cases e1 : trL gs x.l = true
  · rw [e1]
    refine op_v (v_move rfl) rfl ?_
    refine op_v (v_move rfl) rfl ?_
    first
      | (refine op_want rfl rfl ?_
         refine op_v (v_fieldB 1 Tryz.underlying124 rfl rfl fz59 rfl) rfl ?_)
      | (refine op_skip rfl rfl (by simp [undef]) rfl ?_)
    first
      | (refine op_want rfl rfl ?_
         refine op_v (v_fieldB 3 Tryz.underlying59 rfl rfl fz48 rfl) rfl ?_)
      | (refine op_skip rfl rfl (by simp [undef]) rfl ?_)
    first
      | (refine op_want rfl rfl ?_
         refine op_v (v_fieldB 0 Tryz.underlying48 rfl rfl fz3 rfl) rfl ?_)
      | (refine op_skip rfl rfl (by simp [undef]) rfl ?_)
    refine op_want rfl rfl ?_
    refine op_v (v_loadA ty3 rfl rfl) rfl ?_
    by_cases e2 : x.r.head ≠ 0
    · first
        | (refine op_want rfl rfl ?_
           refine op_v (v_cmptA rfl rfl rfl) rfl ?_)
        | (refine op_skip rfl rfl (by simp [undef]) rfl ?_)
      refine op_v (v_pickt rfl rfl) rfl ?_
      refine op_v (v_move rfl) rfl ?_
      refine op_skip rfl rfl (by simp [undef]) rfl ?_
      refine op_skip rfl rfl (by simp [undef]) rfl ?_
      refine op_skip rfl rfl (by simp [undef]) rfl ?_
      refine op_skip rfl rfl (by simp [undef]) rfl ?_
      refine op_skip rfl rfl (by simp [undef]) rfl ?_
      refine op_skip rfl rfl (by simp [undef]) rfl ?_
      refine op_skip rfl rfl (by simp [undef]) rfl ?_
      refine op_skip rfl rfl (by simp [undef]) rfl ?_
      refine op_skip rfl rfl (by simp [undef]) rfl ?_
      refine op_v (v_pickt rfl rfl) rfl ?_
      refine ops_nil ?_
      refine post_next ?_
      refine code_cond_t rfl ?_
      refine code_seq ?_
      refine code_region ?_
      refine op_v (v_assign rfl) rfl ?_
      refine ops_nil ?_
      refine post_next ?_
      refine code_ret ?_
      refine post_ret_then ?_
      refine post_ret (rs := [.tmp 2]) rfl (List.Perm.refl _) (.cons (.tmp rfl) .nil) (List.nil_sublist _) ?_
      exact ⟨by rw [if_pos (by simp [sortL, e1, e2])]; rfl, rfl⟩
    · first
        | (refine op_want rfl rfl ?_
           refine op_v (v_cmpfA rfl rfl rfl) rfl ?_)
        | (refine op_skip rfl rfl (by simp [undef]) rfl ?_)
      refine op_v (v_pickt rfl rfl) rfl ?_
      refine op_v (v_move rfl) rfl ?_
      refine op_want rfl rfl ?_
      refine op_v (v_move rfl) rfl ?_
      refine op_want rfl rfl ?_
      refine op_v (v_not rfl) rfl ?_
      refine op_want rfl rfl ?_
      refine op_v (v_move rfl) rfl ?_
      refine op_skip rfl rfl (by simp [undef]) rfl ?_
      refine op_skip rfl rfl (by simp [undef]) rfl ?_
      refine op_skip rfl rfl (by simp [undef]) rfl ?_
      refine op_skip rfl rfl (by simp [undef]) rfl ?_
      refine op_skip rfl rfl (by simp [undef]) rfl ?_
      first
        | (refine op_want rfl rfl ?_
           refine op_v (v_pickf rfl rfl) rfl ?_)
        | (refine op_skip rfl rfl (by simp [undef]) rfl ?_)
      refine op_v (v_pickf rfl rfl) rfl ?_
      refine ops_nil ?_
      refine post_next ?_
      refine code_cond_f rfl ?_
      refine code_skip ?_
      refine post_next ?_
      refine code_seq ?_
      refine code_region ?_
      refine op_v (v_assign rfl) rfl ?_
      refine ops_nil ?_
      refine post_next ?_
      refine code_ret ?_
      refine post_ret (rs := [.tmp 2]) rfl (List.Perm.refl _) (.cons (.tmp rfl) .nil) (List.nil_sublist _) ?_
      exact ⟨by rw [if_neg (by simp [sortL, e1]; omega)]; rfl, rfl⟩
  · have e1' : trL gs x.l = false := by simpa using e1
    rw [e1']
    refine op_v (v_move rfl) rfl ?_
    refine op_v (v_move rfl) rfl ?_
    refine op_skip rfl rfl (by simp [undef]) rfl ?_
    refine op_skip rfl rfl (by simp [undef]) rfl ?_
    refine op_skip rfl rfl (by simp [undef]) rfl ?_
    refine op_skip rfl rfl (by simp [undef]) rfl ?_
    refine op_skip rfl rfl (by simp [undef]) rfl ?_
    refine op_v (v_pickf rfl rfl) rfl ?_
    refine op_v (v_move rfl) rfl ?_
    refine op_want rfl rfl ?_
    refine op_v (v_move rfl) rfl ?_
    refine op_want rfl rfl ?_
    refine op_v (v_not rfl) rfl ?_
    refine op_want rfl rfl ?_
    refine op_v (v_move rfl) rfl ?_
    refine op_want rfl rfl ?_
    refine op_v (v_load6 ty124 rfl rfl) rfl ?_
    first
      | (refine op_want rfl rfl ?_
         refine op_v (v_fieldB 1 Tryz.underlying124 rfl rfl fz59 rfl) rfl ?_)
      | (refine op_skip rfl rfl (by simp [undef]) rfl ?_)
    first
      | (refine op_want rfl rfl ?_
         refine op_v (v_fieldB 3 Tryz.underlying59 rfl rfl fz48 rfl) rfl ?_)
      | (refine op_skip rfl rfl (by simp [undef]) rfl ?_)
    refine op_want rfl rfl ?_
    refine op_v (v_loadA ty48 rfl rfl) rfl ?_
    refine op_want rfl rfl ?_
    refine op_call pl138 rfl rfl ((truth_does (cs := liC x la lc ra rc) (hg.mono Imm.leA) (hr.mono Imm.leA) ⟨_, _, _, _, _, rfl⟩ h2)) Parts.none ?_
    rintro _ I25 _ hI25 ⟨rfl, rfl⟩
    by_cases e3 : trL gs x.r = true
    · rw [e3]
      first
        | (refine op_want rfl rfl ?_
           refine op_v (v_pickt rfl rfl) rfl ?_)
        | (refine op_skip rfl rfl (by simp [undef]) rfl ?_)
      refine op_v (v_pickf rfl rfl) rfl ?_
      refine ops_nil ?_
      refine post_next ?_
      refine code_cond_t rfl ?_
      refine code_seq ?_
      refine code_region ?_
      refine op_v (v_assign rfl) rfl ?_
      refine ops_nil ?_
      refine post_next ?_
      refine code_ret ?_
      refine post_ret_then ?_
      refine post_ret (rs := [.tmp 2]) rfl (List.Perm.refl _) (.cons (.tmp rfl) .nil) (List.nil_sublist _) ?_
      exact ⟨by rw [if_pos (by simp [sortL, e1', e3])]; rfl, rfl⟩
    · have e3' : trL gs x.r = false := by simpa using e3
      rw [e3']
      first
        | (refine op_want rfl rfl ?_
           refine op_v (v_pickt rfl rfl) rfl ?_)
        | (refine op_skip rfl rfl (by simp [undef]) rfl ?_)
      refine op_v (v_pickf rfl rfl) rfl ?_
      refine ops_nil ?_
      refine post_next ?_
      refine code_cond_f rfl ?_
      refine code_skip ?_
      refine post_next ?_
      refine code_seq ?_
      refine code_region ?_
      refine op_v (v_assign rfl) rfl ?_
      refine ops_nil ?_
      refine post_next ?_
      refine code_ret ?_
      refine post_ret (rs := [.tmp 2]) rfl (List.Perm.refl _) (.cons (.tmp rfl) .nil) (List.nil_sublist _) ?_
      exact ⟨by rw [if_neg (by simp [sortL, e1', e3'])]; rfl, rfl⟩
theorem first_does {I : Imm} {A : Option Addr} {vg : Value} {x : Li} {la ra : Option Addr} {lc rc : Nat} {fs : List Value} {es : List Int} (hcells : Cells I A fs) (hlen : fs.length = es.length) (hl3 : fs.length ≤ 1000) (hg1 : vg.oneCell' = true)
    (hf : ∀ J i (h : i < fs.length), I.le J → (∀ j (hj : j < es.length), j < i → es[j] = 0) → FDoes Tryz.prog fs[i] [.agg #[vg, .bool x.neg, .int .i64 x.l.head, .slice la x.l.args.length lc, .int .i64 x.r.head, .slice ra x.r.args.length rc]] J [] (fun v _ δ' => v = .int .i64 (es[i]'(by omega)) ∧ δ' = [])) :
    Does Tryz.prog 111 [.agg #[vg, .bool x.neg, .int .i64 x.l.head, .slice la x.l.args.length lc, .int .i64 x.r.head, .slice ra x.r.args.length rc], .slice A fs.length fs.length] I [] (fun v _ δ' => v = .int .i64 (orI es) ∧ δ' = []) := by
  have hat : ∀ i (h : i < fs.length), At I A (i * 1) [fs[i]] := fun i h => hcells.at _ fun j u hj => by
    rcases j with _ | j
    · simp at hj; subst hj; simp [h]
    · simp at hj
  refine Does.intro Tryz.func111 rfl Tryz.ntmps111 rfl fun w0 => ?_
  refine code_seq ?_
  refine code_region ?_
  refine o_box rfl rfl rfl (fun b2 => ?_)
  refine op_v (v_assign rfl) rfl ?_
  refine ops_nil ?_
  refine post_next ?_
  refine code_seq ?_
  refine code_seq ?_
  refine code_region ?_
  refine op_v (v_move rfl) rfl ?_
  refine op_v (v_len Tryz.underlying145 rfl) rfl ?_
  refine op_v (v_move rfl) rfl ?_
  refine ops_nil ?_
  refine post_next ?_
  refine code_block ?_
  refine code_loop (fun m σ' I' δ' => ∃ k : Nat, m = fs.length - k ∧ k ≤ fs.length ∧ σ' = [(2, .pointer (some ⟨b2, 0, none⟩)), (8, .slice A fs.length fs.length), (9, .int .i64 fs.length), (10, .int .i64 k)] ∧ I.le I' ∧ δ' = [.box b2 124 [vg, .bool x.neg, .int .i64 x.l.head, .slice la x.l.args.length lc, .int .i64 x.r.head, .slice ra x.r.args.length rc]] ∧ orI es = orI (es.drop k) ∧ ∀ j (hj : j < es.length), j < k → es[j] = 0) fs.length [(2, .pointer (some ⟨b2, 0, none⟩)), (8, .slice A fs.length fs.length), (9, .int .i64 fs.length), (10, .int .i64 (0 : Nat))] ⟨0, rfl, Nat.zero_le _, rfl, Imm.le_refl _, rfl, rfl, fun j _ h => by omega⟩ ⟨rfl, rfl, rfl, rfl, trivial⟩ ?_
  rintro m _ I0 _ ⟨k, rfl, hk, rfl, hI0, rfl, hp, hz⟩
  refine code_seq ?_
  refine code_region ?_
  refine op_v (v_cmp rfl rfl rfl) rfl ?_
  refine ops_nil ?_
  refine post_next ?_
  refine code_seq ?_
  refine code_cond rfl (fun hc0 => ?_) (fun hc0 => ?_)
  · have hlt : k < fs.length := by simpa using hc0
    have hlt2 : k < es.length := by omega
    have hs1 := (hat k hlt).isSome
    rw [List.drop_eq_getElem_cons hlt2] at hp
    refine code_skip ?_
    refine post_next ?_
    refine code_seq ?_
    refine code_block ?_
    refine code_seq ?_
    refine code_region ?_
    refine op_v (v_indexA Tryz.underlying145 sz125 rfl rfl) rfl ?_
    refine op_v (v_loadI0 ty125 ((hat k hlt).mono hI0) rfl rfl rfl) rfl ?_
    refine op_v (v_assign rfl) rfl ?_
    refine ops_nil ?_
    refine post_next ?_
    refine code_seq ?_
    refine code_region ?_
    refine op_v (v_move rfl) rfl ?_
    refine op_v (v_load6 ty124 rfl rfl) rfl ?_
    refine op_fcall rfl rfl rfl ((hf _ k hlt Imm.leA hz)) Parts.none ?_
    rintro _ I16 _ hI16 ⟨rfl, rfl⟩
    refine op_v (v_assign rfl) rfl ?_
    refine ops_nil ?_
    refine post_next ?_
    refine code_seq ?_
    refine code_region ?_
    refine op_v (v_move rfl) rfl ?_
    refine op_v (v_cmp rfl rfl rfl) rfl ?_
    refine ops_nil ?_
    refine post_next ?_
    refine code_cond rfl (fun hc1 => ?_) (fun hc1 => ?_)
    · have hne : es[k] ≠ 0 := by simpa using hc1
      refine code_seq ?_
      refine code_region ?_
      refine op_v (v_move rfl) rfl ?_
      refine op_v (v_assign rfl) rfl ?_
      refine ops_nil ?_
      refine post_next ?_
      refine code_ret ?_
      refine post_ret_block ?_
      refine post_ret_then ?_
      refine post_ret_then ?_
      refine post_ret_block ?_
      refine post_ret_then ?_
      refine post_ret (rs := [.tmp 4]) rfl (List.Perm.refl _) (.cons (.tmp rfl) .nil) (List.nil_sublist _) ?_
      exact ⟨by rw [hp]; simp [outV, orI, hne], rfl⟩
    · have heq : es[k] = 0 := by simpa using hc1
      refine code_skip ?_
      refine post_out ?_
      refine post_next ?_
      refine code_region ?_
      refine op_v (v_addb rfl rfl rfl (by omega)) rfl ?_
      refine op_v (v_move rfl) rfl ?_
      refine ops_nil ?_
      refine post_again (fs.length - (k + 1)) [(2, .pointer (some ⟨b2, 0, none⟩)), (8, .slice A fs.length fs.length), (9, .int .i64 fs.length), (10, .int .i64 (k + 1 : Nat))] (by omega) ⟨k + 1, rfl, hlt, rfl, Imm.leA, rfl, by rw [hp]; simp [orI, heq], fun j hj hjk => ?_⟩ ⟨rfl, rfl, rfl, rfl, trivial⟩
      rcases Nat.lt_or_ge j k with hq | hq
      · exact hz j hj hq
      have hq2 : j = k := by omega
      subst hq2
      exact heq
  · have hge : k = es.length := by simp at hc0; omega
    rw [hge, List.drop_length] at hp
    refine code_exit ?_
    refine post_exit_then ?_
    refine post_exit_then ?_
    refine post_exit ?_
    refine post_next ?_
    refine code_seq ?_
    refine code_region ?_
    refine op_v (v_assign rfl) rfl ?_
    refine ops_nil ?_
    refine post_next ?_
    refine code_ret ?_
    refine post_ret (rs := [.tmp 4]) rfl (List.Perm.refl _) (.cons (.tmp rfl) .nil) (List.nil_sublist _) ?_
    exact ⟨by rw [hp]; simp [outV, orI], rfl⟩

theorem LCheck_does {I : Imm} {vg va : Value} {gs : List Sy} {x : Li} (hg : RepG I vg gs) (ha : RepL I va x) (h1 : x.l.size ≤ 1000000000) (h2 : x.r.size ≤ 1000000000) :
    Does Tryz.prog 68 [vg, va] I [] (fun v _ δ' => v = .int .i64 (litG gs x) ∧ δ' = []) := by
  obtain ⟨la, lc, ra, rc, rfl, hl, hr⟩ := ha
  obtain ⟨ga, gc, rfl⟩ := hg.shape
  have hor : orI [termG gs x.l, termG gs x.r, if sortL gs x = true then 10 else 0] = litG gs x := by
    unfold litG; simp only [orI]
    split <;> (try rfl)
    split <;> (try rfl)
    split <;> rfl
  refine Does.intro Tryz.func68 rfl Tryz.ntmps68 rfl fun w0 => ?_
  refine code_seq ?_
  refine code_region ?_
  refine o_box rfl rfl rfl (fun b3 => ?_)
  refine op_v (v_assign rfl) rfl ?_
  refine ops_nil ?_
  refine post_next ?_
  refine code_seq ?_
  refine code_region ?_
  refine op_v (v_move rfl) rfl ?_
  refine op_v (v_loadA ty59 rfl rfl) rfl ?_
  refine op_v (v_build (cs := [.slice ga gs.length gc, .bool x.neg, .int .i64 x.l.head, .slice la x.l.args.length lc, .int .i64 x.r.head, .slice ra x.r.args.length rc]) bl124 rfl rfl) rfl ?_
  refine o_buildSlice (xs := [(Go.Operand.func 112), (Go.Operand.func 113), (Go.Operand.func 114)]) Tryz.underlying145 bs125 rfl rfl rfl rfl rfl (fun b8 => ?_)
  refine OpsJ.freezeRow Del.here ?_
  rintro I8 a8 c8 hI8 hq hc8 hl8 hcells8
  cases hq
  have hc3 : Cells I8 _ [.func (.func 112) #[] #[], .func (.func 113) #[] #[], .func (.func 114) #[] #[]] := hcells8
  have hF0 : ∀ J, I8.le J → FDoes Tryz.prog (.func (.func 112) #[] #[]) [.agg #[.slice ga gs.length gc, .bool x.neg, .int .i64 x.l.head, .slice la x.l.args.length lc, .int .i64 x.r.head, .slice ra x.r.args.length rc]] J [] (fun v _ δ' => v = .int .i64 (termG gs x.l) ∧ δ' = []) := fun J hJ => FDoes.ofFunc (caps := []) (show Plainf Tryz.prog 112 = true by kernel_rfl) (left_does (x := x) (hg.mono Imm.leA) (hl.mono Imm.leA) h1)
  have hF1 : ∀ J, I8.le J → FDoes Tryz.prog (.func (.func 113) #[] #[]) [.agg #[.slice ga gs.length gc, .bool x.neg, .int .i64 x.l.head, .slice la x.l.args.length lc, .int .i64 x.r.head, .slice ra x.r.args.length rc]] J [] (fun v _ δ' => v = .int .i64 (termG gs x.r) ∧ δ' = []) := fun J hJ => FDoes.ofFunc (caps := []) (show Plainf Tryz.prog 113 = true by kernel_rfl) (right_does (x := x) (hg.mono Imm.leA) (hr.mono Imm.leA) h2)
  have hF2 : ∀ J, I8.le J → OkG gs x.l → OkG gs x.r → FDoes Tryz.prog (.func (.func 114) #[] #[]) [.agg #[.slice ga gs.length gc, .bool x.neg, .int .i64 x.l.head, .slice la x.l.args.length lc, .int .i64 x.r.head, .slice ra x.r.args.length rc]] J [] (fun v _ δ' => v = .int .i64 (if sortL gs x = true then 10 else 0) ∧ δ' = []) := fun J hJ z1 z2 => by
    have q1 := z1.heads (true, x.l) (by rw [visT_eq]; exact List.mem_cons_self ..)
    have q2 := z2.heads (true, x.r) (by rw [visT_eq]; exact List.mem_cons_self ..)
    simp only at q1 q2
    exact FDoes.ofFunc (caps := []) (show Plainf Tryz.prog 114 = true by kernel_rfl) (sorts_does (x := x) (hg.mono Imm.leA) (hl.mono Imm.leA) (hr.mono Imm.leA) (by omega) (by omega))
  have hF : ∀ J i (h : i < [Value.func (.func 112) #[] #[], Value.func (.func 113) #[] #[], Value.func (.func 114) #[] #[]].length), I8.le J → (∀ j (hj : j < [termG gs x.l, termG gs x.r, if sortL gs x = true then 10 else 0].length), j < i → [termG gs x.l, termG gs x.r, if sortL gs x = true then 10 else 0][j] = 0) → FDoes Tryz.prog [Value.func (.func 112) #[] #[], Value.func (.func 113) #[] #[], Value.func (.func 114) #[] #[]][i] [.agg #[.slice ga gs.length gc, .bool x.neg, .int .i64 x.l.head, .slice la x.l.args.length lc, .int .i64 x.r.head, .slice ra x.r.args.length rc]] J [] (fun v _ δ' => v = .int .i64 ([termG gs x.l, termG gs x.r, if sortL gs x = true then 10 else 0][i]'(by simpa using h)) ∧ δ' = []) := fun J i hi hJ hz => by
    rcases i with _ | _ | _ | i
    · exact hF0 J hJ
    · exact hF1 J hJ
    · exact hF2 J hJ (termG_ok.1 (hz 0 (by simp) (by omega))) (termG_ok.1 (hz 1 (by simp) (by omega)))
    · simp at hi; omega
  have hfd := first_does (A := some ⟨b8, 0, none⟩) (x := x) (vg := .slice ga gs.length gc) (la := la) (ra := ra) (lc := lc) (rc := rc) (es := [termG gs x.l, termG gs x.r, if sortL gs x = true then 10 else 0]) hc3 (by simp) (by simp) rfl hF
  rw [hor] at hfd
  refine op_call pl111 rfl rfl (hfd) Parts.none ?_
  rintro _ I9 _ hI9 ⟨rfl, rfl⟩
  refine op_v (v_assign rfl) rfl ?_
  refine ops_nil ?_
  refine post_next ?_
  refine code_ret ?_
  refine post_ret (rs := [.tmp 4]) rfl (List.Perm.refl _) (.cons (.tmp rfl) .nil) (List.nil_sublist _) ?_
  exact ⟨rfl, rfl⟩
end Go.Proofs.YtdbadicpbmndbaaGreat
/- Walks: a clause's sides, what is left of it, whether it always holds, whether it is right, its variables. -/
set_option linter.unusedVariables false
set_option linter.unusedSimpArgs false
set_option linter.unnecessarySimpa false
/- short -/
namespace Go.Proofs.YtdbadicpbmndbaaGreat
open Go Lg

/-- sides of no great size -/
def SmC (c : List Li) : Prop := ∀ x ∈ c, x.l.size ≤ 1000000000 ∧ x.r.size ≤ 1000000000
theorem FewC.sm {c : List Li} (h : FewC c) : SmC c := fun x hx => by have := h.sides x hx; omega
theorem SmC.at {c : List Li} (h : SmC c) {k : Nat} (hk : k < c.length) : c[k].l.size ≤ 1000000000 ∧ c[k].r.size ≤ 1000000000 := h _ (List.getElem_mem hk)
theorem SmC.sub {c d : List Li} (h : SmC c) (hd : ∀ x ∈ d, x ∈ c) : SmC d := fun x hx => h x (hd x hx)
theorem Cterms_does {I : Imm} {v : Value} {c : List Li} (hv : RepC I v c) :
    Does Tryz.prog 46 [v] I [] (fun v I' δ' => RepS I' v (sidesL c) ∧ δ' = []) := by
  obtain ⟨ad, c0, xs, rfl, hc, hb, hcells, hrow⟩ := hv
  refine Does.intro Tryz.func46 rfl Tryz.ntmps46 rfl fun w0 => ?_
  refine code_seq ?_
  refine code_region ?_
  refine op_v (v_assign rfl) rfl ?_
  refine ops_nil ?_
  refine post_next ?_
  refine code_seq ?_
  refine code_region ?_
  refine op_v (v_assign rfl) rfl ?_
  refine ops_nil ?_
  refine post_next ?_
  refine code_seq ?_
  refine code_seq ?_
  refine code_region ?_
  refine op_v (v_move rfl) rfl ?_
  refine op_v (v_len Tryz.underlying23 rfl) rfl ?_
  refine op_v (v_move rfl) rfl ?_
  refine ops_nil ?_
  refine post_next ?_
  refine code_block ?_
  refine CodeJ.view (View.nilRow 48 2) ?_
  refine code_loop (fun m σ' I' δ' => ∃ (k : Nat) (A : Option Addr) (c' : Nat) (ys : List Value), m = c.length - k ∧ k ≤ c.length ∧ σ' = [(3, .slice A (2 * k) c'), (6, .slice ad c.length c0), (7, .int .i64 c.length), (8, .int .i64 k)] ∧ I = I' ∧ δ' = [.row (.slice A (2 * k) c') 48 2 (2 * k) ys] ∧ RowE TermE I ys (sidesL (c.take k))) c.length [(3, .slice none (2 * 0) 0), (6, .slice ad c.length c0), (7, .int .i64 c.length), (8, .int .i64 (0 : Nat))] ⟨0, none, 0, [], rfl, Nat.zero_le _, rfl, rfl, rfl, rfl⟩ ⟨rfl, rfl, rfl, rfl, trivial⟩ ?_
  rintro m _ _ _ ⟨k, A, c', ys, rfl, hk, rfl, rfl, rfl, hys⟩
  refine code_seq ?_
  refine code_region ?_
  refine op_v (v_cmp rfl rfl rfl) rfl ?_
  refine ops_nil ?_
  refine post_next ?_
  refine code_seq ?_
  refine code_cond rfl (fun hc0 => ?_) (fun hc0 => ?_)
  · have hlt : k < c.length := by simpa using hc0
    obtain ⟨vs, ⟨la, lc, ra, rc, rfl, hl, hr⟩, hat⟩ := hrow.cellsAt hcells hlt
    have hs1 := hat.isSome
    refine code_skip ?_
    refine post_next ?_
    refine code_seq ?_
    refine code_block ?_
    refine code_seq ?_
    refine code_region ?_
    refine op_v (v_indexA Tryz.underlying23 sz59 rfl rfl) rfl ?_
    refine op_v (v_loadI0 ty59 (hat) rfl rfl rfl) rfl ?_
    refine o_alloc z59 rfl rfl (fun b5 => ?_)
    refine o_store ty59 rfl rfl rfl rfl rfl (by repeat (first | exact Swap.here | apply Swap.there)) rfl ?_
    refine ops_nil ?_
    refine post_next ?_
    refine code_region ?_
    refine op_v (v_move rfl) rfl ?_
    refine op_v (v_fieldB 1 Tryz.underlying59 rfl rfl fz48 rfl) rfl ?_
    refine op_v (v_loadA ty48 rfl rfl) rfl ?_
    refine op_v (v_fieldB 3 Tryz.underlying59 rfl rfl fz48 rfl) rfl ?_
    refine op_v (v_loadA ty48 rfl rfl) rfl ?_
    refine o_buildSlice (xs := [(Go.Operand.tmp 14), (Go.Operand.tmp 16)]) Tryz.underlying46 bs48 rfl rfl rfl rfl rfl (fun b17 => ?_)
    refine o_append Tryz.underlying46 bs48 rfl rfl rfl (fun v' => by repeat (first | exact Swap.here | apply Swap.there)) (Src.ofRow (by repeat (first | exact Has.here | apply Has.there)) rfl) (by first | rfl | omega | simp) (by simp [cat, cellsL, Value.oneCell']) (by omega) (by omega) (fun a18 c18 => ?_)
    refine op_v (v_assign rfl) rfl ?_
    refine ops_nil ?_
    refine post_out ?_
    refine post_next ?_
    refine code_region ?_
    refine op_v (v_addb rfl rfl rfl (by omega)) rfl ?_
    refine op_v (v_move rfl) rfl ?_
    refine ops_nil ?_
    refine PostJ.view (View.drop Del.here) ?_
    refine PostJ.view (View.drop Del.here) ?_
    refine post_again (c.length - (k + 1)) [(3, .slice a18 (2 * (k + 1)) c18), (6, .slice ad c.length c0), (7, .int .i64 c.length), (8, .int .i64 (k + 1 : Nat))] (by omega) ⟨k + 1, a18, c18, ys ++ [.int .i64 c[k].l.head, .slice la c[k].l.args.length lc, .int .i64 c[k].r.head, .slice ra c[k].r.args.length rc], rfl, hlt, rfl, rfl, ?_, ?_⟩ ⟨rfl, rfl, rfl, rfl, trivial⟩
    · simp [cat, cellsL]; omega
    · rw [sidesL_take c k hlt]
      exact hys.app ⟨[.int .i64 c[k].l.head, .slice la c[k].l.args.length lc], [.int .i64 c[k].r.head, .slice ra c[k].r.args.length rc], rfl, ⟨la, lc, rfl, hl⟩, RowE.single ⟨ra, rc, rfl, hr⟩⟩
  · have hge : k = c.length := by simp at hc0; omega
    subst hge
    rw [List.take_length] at hys
    refine code_exit ?_
    refine post_exit_then ?_
    refine post_exit_then ?_
    refine post_exit ?_
    refine post_next ?_
    refine code_seq ?_
    refine code_region ?_
    refine OpsJ.freezeRow Del.here ?_
    rintro I20 a20 c20 hI20 hq hc20 hl20 hcells20
    cases hq
    refine op_v (v_move rfl) rfl ?_
    refine op_v (v_assign rfl) rfl ?_
    refine ops_nil ?_
    refine post_next ?_
    refine code_ret ?_
    refine post_ret (rs := [.tmp 2]) rfl (List.Perm.refl _) (.cons (.tmp rfl) .nil) (List.nil_sublist _) ?_
    refine ⟨?_, rfl⟩
    have h2 := sidesL_len c
    have := RowE.repS (c := c') (hys.mono hI20) hcells20 (by omega) (by omega)
    rw [h2] at this; exact this
theorem Tidy1_does {I : Imm} {b : Nat} {l m : Li} {ul um : List Value} (hl : LitE.R I l ul) (hm : LitE.R I m um) (h1 : l.l.size ≤ 1000000000) (h2 : l.r.size ≤ 1000000000) (h3 : m.l.size ≤ 1000000000) (h4 : m.r.size ≤ 1000000000) :
    Does Tryz.prog 104 [.agg um.toArray, .pointer (some ⟨b, 0, none⟩)] I [.box b 59 ul] (fun v _ δ' => v = .bool (sameL l m) ∧ δ' = [.box b 59 ul]) := by
  have hl0 := lit_row hl
  have hm0 := lit_row hm
  obtain ⟨la, lc, ra, rc, rfl, _, _⟩ := hl
  obtain ⟨ma, mc, na, nc, rfl, _, _⟩ := hm
  refine Does.intro Tryz.func104 rfl Tryz.ntmps104 rfl fun w0 => ?_
  refine code_seq ?_
  refine code_region ?_
  refine o_box rfl rfl rfl (fun b2 => ?_)
  refine op_v (v_assign rfl) rfl ?_
  refine ops_nil ?_
  refine post_next ?_
  refine code_seq ?_
  refine code_region ?_
  refine op_v (v_loadA ty59 rfl rfl) rfl ?_
  refine op_v (v_loadA ty59 rfl rfl) rfl ?_
  refine op_call pl40 rfl rfl ((LSame_does hl0 hm0 h1 h2 h3 h4)) Parts.none ?_
  rintro v6 I6 _ hI6 ⟨rfl, rfl⟩
  refine op_v (v_assign rfl) rfl ?_
  refine ops_nil ?_
  refine post_next ?_
  refine code_ret ?_
  refine post_ret (rs := [.tmp 3]) rfl (List.Perm.refl _) (.cons (.tmp rfl) .nil) (List.sublist_cons_self _ _) ?_
  exact ⟨rfl, rfl⟩
theorem Taut1_does {I : Imm} {b : Nat} {l m : Li} {ul um : List Value} (hl : LitE.R I l ul) (hm : LitE.R I m um) (h1 : l.l.size ≤ 1000000000) (h2 : l.r.size ≤ 1000000000) (h3 : m.l.size ≤ 1000000000) (h4 : m.r.size ≤ 1000000000) :
    Does Tryz.prog 106 [.agg um.toArray, .pointer (some ⟨b, 0, none⟩)] I [.box b 59 ul] (fun v _ δ' => v = .bool (oppL l m) ∧ δ' = [.box b 59 ul]) := by
  have hl0 := lit_row hl
  have hm0 := lit_row hm
  obtain ⟨la, lc, ra, rc, rfl, _, _⟩ := hl
  obtain ⟨ma, mc, na, nc, rfl, _, _⟩ := hm
  refine Does.intro Tryz.func106 rfl Tryz.ntmps106 rfl fun w0 => ?_
  refine code_seq ?_
  refine code_region ?_
  refine o_box rfl rfl rfl (fun b2 => ?_)
  refine op_v (v_assign rfl) rfl ?_
  refine ops_nil ?_
  refine post_next ?_
  refine code_seq ?_
  refine code_region ?_
  refine op_v (v_loadA ty59 rfl rfl) rfl ?_
  refine op_v (v_loadA ty59 rfl rfl) rfl ?_
  refine op_call pl107 rfl rfl ((LOpp_does hl0 hm0 h1 h2 h3 h4)) Parts.none ?_
  rintro v6 I6 _ hI6 ⟨rfl, rfl⟩
  refine op_v (v_assign rfl) rfl ?_
  refine ops_nil ?_
  refine post_next ?_
  refine code_ret ?_
  refine post_ret (rs := [.tmp 3]) rfl (List.Perm.refl _) (.cons (.tmp rfl) .nil) (List.sublist_cons_self _ _) ?_
  exact ⟨rfl, rfl⟩
theorem CTidy_does {I : Imm} {v : Value} {c : List Li} (hv : RepC I v c) (hs : SmC c) :
    Does Tryz.prog 62 [v] I [] (fun v I' δ' => RepC I' v (tidyL c) ∧ δ' = []) := by
  obtain ⟨ad, c0, xs, rfl, hc, hb, hcells, hrow⟩ := hv
  refine Does.intro Tryz.func62 rfl Tryz.ntmps62 rfl fun w0 => ?_
  refine code_seq ?_
  refine code_region ?_
  refine op_v (v_assign rfl) rfl ?_
  refine ops_nil ?_
  refine post_next ?_
  refine code_seq ?_
  refine code_region ?_
  refine op_v (v_assign rfl) rfl ?_
  refine ops_nil ?_
  refine post_next ?_
  refine code_seq ?_
  refine code_seq ?_
  refine code_region ?_
  refine op_v (v_move rfl) rfl ?_
  refine op_v (v_len Tryz.underlying23 rfl) rfl ?_
  refine op_v (v_move rfl) rfl ?_
  refine ops_nil ?_
  refine post_next ?_
  refine code_block ?_
  refine CodeJ.view (View.nilRow 59 5) ?_
  refine code_loop (fun m σ' I' δ' => ∃ (k : Nat) (A : Option Addr) (c' : Nat) (ys : List Value), m = c.length - k ∧ k ≤ c.length ∧ σ' = [(3, .slice A (tidyGo [] (c.take k)).length c'), (7, .slice ad c.length c0), (8, .int .i64 c.length), (9, .int .i64 k)] ∧ I.le I' ∧ δ' = [cRow A c' (tidyGo [] (c.take k)).length ys] ∧ RowE LitE I' ys (tidyGo [] (c.take k))) c.length [(3, .slice none 0 0), (7, .slice ad c.length c0), (8, .int .i64 c.length), (9, .int .i64 (0 : Nat))] ⟨0, none, 0, [], rfl, Nat.zero_le _, rfl, Imm.le_refl _, rfl, rfl⟩ ⟨rfl, rfl, rfl, rfl, trivial⟩ ?_
  rintro m _ I0 _ ⟨k, A, c', ys, rfl, hk, rfl, hI0, rfl, hys⟩
  have htl := tidyGo_len [] (c.take k)
  rw [List.length_take, List.length_nil] at htl
  refine code_seq ?_
  refine code_region ?_
  refine op_v (v_cmp rfl rfl rfl) rfl ?_
  refine ops_nil ?_
  refine post_next ?_
  refine code_seq ?_
  refine code_cond rfl (fun hc0 => ?_) (fun hc0 => ?_)
  · have hlt : k < c.length := by simpa using hc0
    obtain ⟨vs, hR, hat⟩ := hrow.cellsAt hcells hlt
    obtain ⟨la, lc, ra, rc, rfl, hl, hr⟩ := hR
    have hs1 := hat.isSome
    have hsk := hs.at hlt
    have hmem : ∀ x ∈ tidyGo [] (c.take k), x ∈ c := fun x hx => by rcases tidyGo_mem _ _ x hx with h | h; cases h; exact List.mem_of_mem_take h
    have hsu := tidyGo_succ c k hlt
    refine code_skip ?_
    refine post_next ?_
    refine code_seq ?_
    refine code_block ?_
    refine code_seq ?_
    refine code_region ?_
    refine op_v (v_indexA Tryz.underlying23 sz59 rfl rfl) rfl ?_
    refine op_v (v_loadI0 ty59 (hat.mono hI0) rfl rfl rfl) rfl ?_
    refine o_alloc z59 rfl rfl (fun b5 => ?_)
    refine o_store ty59 rfl rfl rfl rfl rfl (by repeat (first | exact Swap.here | apply Swap.there)) rfl ?_
    refine ops_nil ?_
    refine post_next ?_
    refine code_seq ?_
    refine code_region ?_
    refine op_v (v_move rfl) rfl ?_
    refine op_v (v_makeFunc rfl rfl) rfl ?_
    refine op_call pl86 rfl rfl ((ContR_doesC (c := tidyGo [] (c.take k)) (p := fun m => sameL c[k] m) hys (by omega) (fun J x u hJ hu hx => FDoes.ofFunc (args := [_]) (caps := [_]) pl104 (Tidy1_does (b := b5) (LitE.mono (Imm.le_trans hI0 hJ) ⟨la, lc, ra, rc, rfl, hl, hr⟩) hu hsk.1 hsk.2 (hs x (hmem x hx)).1 (hs x (hmem x hx)).2)))) (List.Perm.swap _ _ _) ?_
    rintro v15 I15 _ hI15 ⟨rfl, rfl⟩
    rw [List.append_nil]
    refine op_v (v_assign rfl) rfl ?_
    refine ops_nil ?_
    refine post_next ?_
    refine code_seq ?_
    refine code_region ?_
    refine op_v (v_move rfl) rfl ?_
    by_cases ht : ((tidyGo [] (c.take k)).any fun m => sameL c[k] m) = true
    · rw [ht]
      have hgone : goneL (tidyGo [] (c.take k)) c[k] = true := by unfold goneL; rw [ht]; rfl
      rw [if_pos hgone] at hsu
      refine op_v (v_not rfl) rfl ?_
      refine op_v (v_move rfl) rfl ?_
      refine op_skip rfl rfl (by simp [undef]) rfl ?_
      refine op_skip rfl rfl (by simp [undef]) rfl ?_
      refine op_skip rfl rfl (by simp [undef]) rfl ?_
      refine op_skip rfl rfl (by simp [undef]) rfl ?_
      refine op_skip rfl rfl (by simp [undef]) rfl ?_
      refine op_skip rfl rfl (by simp [undef]) rfl ?_
      refine op_skip rfl rfl (by simp [undef]) rfl ?_
      refine op_v (v_pickf rfl rfl) rfl ?_
      refine ops_nil ?_
      refine post_next ?_
      refine code_cond_f rfl ?_
      refine code_skip ?_
      refine post_out ?_
      refine post_next ?_
      refine code_region ?_
      refine op_v (v_addb rfl rfl rfl (by omega)) rfl ?_
      refine op_v (v_move rfl) rfl ?_
      refine ops_nil ?_
      refine PostJ.view (View.drop (Del.there Del.here)) ?_
      refine post_again (c.length - (k + 1)) [(3, .slice A (tidyGo [] (c.take k)).length c'), (7, .slice ad c.length c0), (8, .int .i64 c.length), (9, .int .i64 (k + 1 : Nat))] (by omega) ⟨k + 1, A, c', ys, rfl, hlt, by rw [hsu], Imm.leA, by rw [hsu], by rw [hsu]; exact hys.mono Imm.leA⟩ ⟨rfl, rfl, rfl, rfl, trivial⟩
    · have ht' : ((tidyGo [] (c.take k)).any fun m => sameL c[k] m) = false := by simpa using ht
      rw [ht']
      refine op_v (v_not rfl) rfl ?_
      refine op_v (v_move rfl) rfl ?_
      first
        | (refine op_want rfl rfl ?_
           refine op_v (v_fieldB 0 Tryz.underlying59 rfl rfl fz4 rfl) rfl ?_)
        | (refine op_skip rfl rfl (by simp [undef]) rfl ?_)
      by_cases hn : c[k].neg = true
      · refine op_want rfl rfl ?_
        refine op_v (v_loadA (cs := liC c[k] la lc ra rc) (off := 0) (agg := false) (n := 1) (v := .bool true) ty4 rfl (by show some (Value.bool c[k].neg) = _; rw [hn])) rfl ?_
        refine op_want rfl rfl ?_
        refine op_v (v_move rfl) rfl ?_
        refine op_want rfl rfl ?_
        refine op_v (v_loadA ty59 rfl rfl) rfl ?_
        refine op_want rfl rfl ?_
        refine op_call pl105 rfl rfl ((LTrivial_does (x := c[k]) ⟨la, lc, ra, rc, rfl, hl.mono Imm.leA, hr.mono Imm.leA⟩ hsk.1 hsk.2)) Parts.none ?_
        rintro v23 I23 _ hI23 ⟨rfl, rfl⟩
        first
          | (refine op_want rfl rfl ?_
             refine op_v (v_pickt rfl rfl) rfl ?_)
          | (refine op_skip rfl rfl (by simp [undef]) rfl ?_)
        refine op_want rfl rfl ?_
        refine op_v (v_not rfl) rfl ?_
        refine op_v (v_pickt rfl rfl) rfl ?_
        refine ops_nil ?_
        refine post_next ?_
        refine code_cond rfl (fun hc1 => ?_) (fun hc1 => ?_)
        · have hgone : goneL (tidyGo [] (c.take k)) c[k] = false := by unfold goneL trivL; rw [ht', hn]; simpa using hc1
          rw [if_neg (by rw [hgone]; simp)] at hsu
          refine code_region ?_
          refine op_v (v_move rfl) rfl ?_
          refine op_v (v_loadA ty59 rfl rfl) rfl ?_
          refine o_buildSlice (xs := [(Go.Operand.tmp 28)]) Tryz.underlying23 bs59 rfl rfl rfl rfl rfl (fun b29 => ?_)
          refine o_append Tryz.underlying23 bs59 rfl rfl rfl (fun v' => by repeat (first | exact Swap.here | apply Swap.there)) (Src.ofRow (by repeat (first | exact Has.here | apply Has.there)) rfl) (by first | rfl | omega | simp) (by simp [cat, cellsL, Value.oneCell']) (by omega) (by omega) (fun a30 c30 => ?_)
          refine op_v (v_assign rfl) rfl ?_
          refine ops_nil ?_
          refine post_out ?_
          refine post_next ?_
          refine code_region ?_
          refine op_v (v_addb rfl rfl rfl (by omega)) rfl ?_
          refine op_v (v_move rfl) rfl ?_
          refine ops_nil ?_
          refine PostJ.view (View.drop Del.here) ?_
          refine PostJ.view (View.drop (Del.there Del.here)) ?_
          refine post_again (c.length - (k + 1)) [(3, .slice a30 ((tidyGo [] (c.take k)).length + 1) c30), (7, .slice ad c.length c0), (8, .int .i64 c.length), (9, .int .i64 (k + 1 : Nat))] (by omega) ⟨k + 1, a30, c30, ys ++ liC c[k] la lc ra rc, rfl, hlt, by rw [hsu]; simp, Imm.leA, by rw [hsu]; simp [cat, cellsL], by rw [hsu]; exact (hys.mono Imm.leA).app (RowE.single ⟨la, lc, ra, rc, rfl, hl.mono Imm.leA, hr.mono Imm.leA⟩)⟩ ⟨rfl, rfl, rfl, rfl, trivial⟩
        · have hgone : goneL (tidyGo [] (c.take k)) c[k] = true := by unfold goneL trivL; rw [ht', hn]; simpa using hc1
          rw [if_pos hgone] at hsu
          refine code_skip ?_
          refine post_out ?_
          refine post_next ?_
          refine code_region ?_
          refine op_v (v_addb rfl rfl rfl (by omega)) rfl ?_
          refine op_v (v_move rfl) rfl ?_
          refine ops_nil ?_
          refine PostJ.view (View.drop (Del.there Del.here)) ?_
          refine post_again (c.length - (k + 1)) [(3, .slice A (tidyGo [] (c.take k)).length c'), (7, .slice ad c.length c0), (8, .int .i64 c.length), (9, .int .i64 (k + 1 : Nat))] (by omega) ⟨k + 1, A, c', ys, rfl, hlt, by rw [hsu], Imm.leA, by rw [hsu], by rw [hsu]; exact hys.mono Imm.leA⟩ ⟨rfl, rfl, rfl, rfl, trivial⟩
      · have hn' : c[k].neg = false := by simpa using hn
        have hgone : goneL (tidyGo [] (c.take k)) c[k] = false := by unfold goneL; rw [ht', hn']; rfl
        rw [if_neg (by rw [hgone]; simp)] at hsu
        refine op_want rfl rfl ?_
        refine op_v (v_loadA (cs := liC c[k] la lc ra rc) (off := 0) (agg := false) (n := 1) (v := .bool false) ty4 rfl (by show some (Value.bool c[k].neg) = _; rw [hn'])) rfl ?_
        refine op_want rfl rfl ?_
        refine op_v (v_move rfl) rfl ?_
        refine op_skip rfl rfl (by simp [undef]) rfl ?_
        refine op_skip rfl rfl (by simp [undef]) rfl ?_
        first
          | (refine op_want rfl rfl ?_
             refine op_v (v_pickf rfl rfl) rfl ?_)
          | (refine op_skip rfl rfl (by simp [undef]) rfl ?_)
        refine op_want rfl rfl ?_
        refine op_v (v_not rfl) rfl ?_
        refine op_v (v_pickt rfl rfl) rfl ?_
        refine ops_nil ?_
        refine post_next ?_
        refine code_cond_t rfl ?_
        refine code_region ?_
        refine op_v (v_move rfl) rfl ?_
        refine op_v (v_loadA ty59 rfl rfl) rfl ?_
        refine o_buildSlice (xs := [(Go.Operand.tmp 28)]) Tryz.underlying23 bs59 rfl rfl rfl rfl rfl (fun b29 => ?_)
        refine o_append Tryz.underlying23 bs59 rfl rfl rfl (fun v' => by repeat (first | exact Swap.here | apply Swap.there)) (Src.ofRow (by repeat (first | exact Has.here | apply Has.there)) rfl) (by first | rfl | omega | simp) (by simp [cat, cellsL, Value.oneCell']) (by omega) (by omega) (fun a30 c30 => ?_)
        refine op_v (v_assign rfl) rfl ?_
        refine ops_nil ?_
        refine post_out ?_
        refine post_next ?_
        refine code_region ?_
        refine op_v (v_addb rfl rfl rfl (by omega)) rfl ?_
        refine op_v (v_move rfl) rfl ?_
        refine ops_nil ?_
        refine PostJ.view (View.drop Del.here) ?_
        refine PostJ.view (View.drop (Del.there Del.here)) ?_
        refine post_again (c.length - (k + 1)) [(3, .slice a30 ((tidyGo [] (c.take k)).length + 1) c30), (7, .slice ad c.length c0), (8, .int .i64 c.length), (9, .int .i64 (k + 1 : Nat))] (by omega) ⟨k + 1, a30, c30, ys ++ liC c[k] la lc ra rc, rfl, hlt, by rw [hsu]; simp, Imm.leA, by rw [hsu]; simp [cat, cellsL], by rw [hsu]; exact (hys.mono Imm.leA).app (RowE.single ⟨la, lc, ra, rc, rfl, hl.mono Imm.leA, hr.mono Imm.leA⟩)⟩ ⟨rfl, rfl, rfl, rfl, trivial⟩
  · have hge : k = c.length := by simp at hc0; omega
    subst hge
    rw [List.take_length] at hys
    refine code_exit ?_
    refine post_exit_then ?_
    refine post_exit_then ?_
    refine post_exit ?_
    refine post_next ?_
    refine code_seq ?_
    refine code_region ?_
    refine OpsJ.freezeRow Del.here ?_
    rintro I32 a32 c32 hI32 hq hc32 hl32 hcells32
    cases hq
    rw [List.take_length] at htl hc32
    rw [List.take_length]
    refine op_v (v_move rfl) rfl ?_
    refine op_v (v_assign rfl) rfl ?_
    refine ops_nil ?_
    refine post_next ?_
    refine code_ret ?_
    refine post_ret (rs := [.tmp 2]) rfl (List.Perm.refl _) (.cons (.tmp rfl) .nil) (List.nil_sublist _) ?_
    exact ⟨⟨_, _, ys, rfl, hc32, by show (tidyGo [] c).length ≤ _; omega, hcells32, hys.mono hI32⟩, rfl⟩
def tautGo : List Li → List Li → Bool
  | _, [] => false
  | pre, x :: r => (pre.any (fun m => oppL x m) || (!x.neg && trivL x)) || tautGo (pre ++ [x]) r
def tautL (c : List Li) : Bool := tautGo [] c
theorem tautGo_at (c : List Li) (k : Nat) (h : k < c.length) : tautGo (c.take k) (c.drop k) = (((c.take k).any (fun m => oppL c[k] m) || (!c[k].neg && trivL c[k])) || tautGo (c.take (k + 1)) (c.drop (k + 1))) := by
  rw [List.drop_eq_getElem_cons h, List.take_succ_eq_append_getElem h]; rfl
theorem CTaut_does {I : Imm} {v : Value} {c : List Li} (hv : RepC I v c) (hs : SmC c) :
    Does Tryz.prog 64 [v] I [] (fun v I' δ' => v = .bool (tautL c) ∧ δ' = []) := by
  obtain ⟨ad, c0, xs, rfl, hc, hb, hcells, hrow⟩ := hv
  refine Does.intro Tryz.func64 rfl Tryz.ntmps64 rfl fun w0 => ?_
  refine code_seq ?_
  refine code_region ?_
  refine op_v (v_assign rfl) rfl ?_
  refine ops_nil ?_
  refine post_next ?_
  refine code_seq ?_
  refine code_seq ?_
  refine code_region ?_
  refine op_v (v_move rfl) rfl ?_
  refine op_v (v_len Tryz.underlying23 rfl) rfl ?_
  refine op_v (v_move rfl) rfl ?_
  refine ops_nil ?_
  refine post_next ?_
  refine code_block ?_
  refine code_loop (fun m σ' I' δ' => ∃ k : Nat, m = c.length - k ∧ k ≤ c.length ∧ σ' = [(0, .slice ad c.length c0), (6, .slice ad c.length c0), (7, .int .i64 c.length), (8, .int .i64 k)] ∧ I.le I' ∧ δ' = [] ∧ tautL c = tautGo (c.take k) (c.drop k)) c.length [(0, .slice ad c.length c0), (6, .slice ad c.length c0), (7, .int .i64 c.length), (8, .int .i64 (0 : Nat))] ⟨0, rfl, Nat.zero_le _, rfl, Imm.le_refl _, rfl, rfl⟩ ⟨rfl, rfl, rfl, rfl, trivial⟩ ?_
  rintro m _ I0 _ ⟨k, rfl, hk, rfl, hI0, rfl, hta⟩
  refine code_seq ?_
  refine code_region ?_
  refine op_v (v_cmp rfl rfl rfl) rfl ?_
  refine ops_nil ?_
  refine post_next ?_
  refine code_seq ?_
  refine code_cond rfl (fun hc0 => ?_) (fun hc0 => ?_)
  · have hlt : k < c.length := by simpa using hc0
    obtain ⟨vs, ⟨la, lc, ra, rc, rfl, hl, hr⟩, hat⟩ := hrow.cellsAt hcells hlt
    have hs1 := hat.isSome
    have hsk := hs.at hlt
    have htk := RepE.takeR (k := k) (hc) hb (hcells.mono hI0) (hrow.mono hI0) (by omega)
    rw [tautGo_at c k hlt] at hta
    refine code_skip ?_
    refine post_next ?_
    refine code_seq ?_
    refine code_block ?_
    refine code_seq ?_
    refine code_region ?_
    refine op_v (v_move rfl) rfl ?_
    refine op_v (v_indexA Tryz.underlying23 sz59 rfl rfl) rfl ?_
    refine op_v (v_loadI0 ty59 (hat.mono hI0) rfl rfl rfl) rfl ?_
    refine o_alloc z59 rfl rfl (fun b4 => ?_)
    refine op_v (v_assign rfl) rfl ?_
    refine o_store ty59 rfl rfl rfl rfl rfl (by repeat (first | exact Swap.here | apply Swap.there)) rfl ?_
    refine ops_nil ?_
    refine post_next ?_
    refine code_seq ?_
    refine code_region ?_
    refine op_v (v_move rfl) rfl ?_
    refine op_v (v_move rfl) rfl ?_
    refine op_v (v_sliceTo Tryz.underlying23 sz59 rfl rfl (by omega)) rfl ?_
    refine op_v (v_makeFunc rfl rfl) rfl ?_
    refine op_call pl86 rfl rfl ((ContC_does (c := c.take k) (p := fun m => oppL c[k] m) htk (fun J x u hJ hu hx => FDoes.ofFunc (args := [_]) (caps := [_]) pl106 (Taut1_does (b := b4) (LitE.mono (Imm.le_trans hI0 hJ) ⟨la, lc, ra, rc, rfl, hl, hr⟩) hu hsk.1 hsk.2 (hs x (List.mem_of_mem_take hx)).1 (hs x (List.mem_of_mem_take hx)).2)))) Parts.all ?_
    rintro v17 I17 _ hI17 ⟨rfl, rfl⟩
    rw [List.append_nil]
    refine op_v (v_assign rfl) rfl ?_
    refine ops_nil ?_
    refine post_next ?_
    refine code_seq ?_
    refine code_region ?_
    refine op_v (v_move rfl) rfl ?_
    by_cases ht : ((c.take k).any fun m => oppL c[k] m) = true
    · rw [ht]
      rw [ht] at hta
      refine op_v (v_move rfl) rfl ?_
      refine op_skip rfl rfl (by simp [undef]) rfl ?_
      refine op_skip rfl rfl (by simp [undef]) rfl ?_
      refine op_skip rfl rfl (by simp [undef]) rfl ?_
      refine op_skip rfl rfl (by simp [undef]) rfl ?_
      refine op_skip rfl rfl (by simp [undef]) rfl ?_
      refine op_skip rfl rfl (by simp [undef]) rfl ?_
      refine op_skip rfl rfl (by simp [undef]) rfl ?_
      refine op_v (v_pickt rfl rfl) rfl ?_
      refine ops_nil ?_
      refine post_next ?_
      refine code_cond_t rfl ?_
      refine code_seq ?_
      refine code_region ?_
      refine op_v (v_assign rfl) rfl ?_
      refine ops_nil ?_
      refine post_next ?_
      refine code_ret ?_
      refine post_ret_block ?_
      refine post_ret_then ?_
      refine post_ret_then ?_
      refine post_ret_block ?_
      refine post_ret_then ?_
      refine post_ret (rs := [.tmp 2]) rfl (List.Perm.refl _) (.cons (.tmp rfl) .nil) (List.nil_sublist _) ?_
      exact ⟨by rw [hta]; rfl, rfl⟩
    · have ht' : ((c.take k).any fun m => oppL c[k] m) = false := by simpa using ht
      rw [ht']
      rw [ht'] at hta
      refine op_v (v_move rfl) rfl ?_
      first
        | (refine op_want rfl rfl ?_
           refine op_v (v_fieldB 0 Tryz.underlying59 rfl rfl fz4 rfl) rfl ?_)
        | (refine op_skip rfl rfl (by simp [undef]) rfl ?_)
      by_cases hn : c[k].neg = true
      · rw [hn] at hta
        refine op_want rfl rfl ?_
        refine op_v (v_loadA (cs := liC c[k] la lc ra rc) (off := 0) (agg := false) (n := 1) (v := .bool true) ty4 rfl (by show some (Value.bool c[k].neg) = _; rw [hn])) rfl ?_
        refine op_want rfl rfl ?_
        refine op_v (v_not rfl) rfl ?_
        refine op_want rfl rfl ?_
        refine op_v (v_move rfl) rfl ?_
        refine op_skip rfl rfl (by simp [undef]) rfl ?_
        refine op_skip rfl rfl (by simp [undef]) rfl ?_
        first
          | (refine op_want rfl rfl ?_
             refine op_v (v_pickf rfl rfl) rfl ?_)
          | (refine op_skip rfl rfl (by simp [undef]) rfl ?_)
        refine op_v (v_pickf rfl rfl) rfl ?_
        refine ops_nil ?_
        refine post_next ?_
        refine code_cond_f rfl ?_
        refine code_skip ?_
        refine post_out ?_
        refine post_next ?_
        refine code_region ?_
        refine op_v (v_addb rfl rfl rfl (by omega)) rfl ?_
        refine op_v (v_move rfl) rfl ?_
        refine ops_nil ?_
        refine PostJ.view (View.drop Del.here) ?_
        refine post_again (c.length - (k + 1)) [(0, .slice ad c.length c0), (6, .slice ad c.length c0), (7, .int .i64 c.length), (8, .int .i64 (k + 1 : Nat))] (by omega) ⟨k + 1, rfl, hlt, rfl, Imm.leA, rfl, by rw [hta]; rfl⟩ ⟨rfl, rfl, rfl, rfl, trivial⟩
      · have hn' : c[k].neg = false := by simpa using hn
        rw [hn'] at hta
        refine op_want rfl rfl ?_
        refine op_v (v_loadA (cs := liC c[k] la lc ra rc) (off := 0) (agg := false) (n := 1) (v := .bool false) ty4 rfl (by show some (Value.bool c[k].neg) = _; rw [hn'])) rfl ?_
        refine op_want rfl rfl ?_
        refine op_v (v_not rfl) rfl ?_
        refine op_want rfl rfl ?_
        refine op_v (v_move rfl) rfl ?_
        refine op_want rfl rfl ?_
        refine op_v (v_loadA ty59 rfl rfl) rfl ?_
        refine op_want rfl rfl ?_
        refine op_call pl105 rfl rfl ((LTrivial_does (x := c[k]) ⟨la, lc, ra, rc, rfl, hl.mono Imm.leA, hr.mono Imm.leA⟩ hsk.1 hsk.2)) Parts.none ?_
        rintro v25 I25 _ hI25 ⟨rfl, rfl⟩
        first
          | (refine op_want rfl rfl ?_
             refine op_v (v_pickt rfl rfl) rfl ?_)
          | (refine op_skip rfl rfl (by simp [undef]) rfl ?_)
        refine op_v (v_pickf rfl rfl) rfl ?_
        refine ops_nil ?_
        refine post_next ?_
        refine code_cond rfl (fun hc1 => ?_) (fun hc1 => ?_)
        · have hc1' : trivL c[k] = true := hc1
          rw [hc1'] at hta
          refine code_seq ?_
          refine code_region ?_
          refine op_v (v_assign rfl) rfl ?_
          refine ops_nil ?_
          refine post_next ?_
          refine code_ret ?_
          refine post_ret_block ?_
          refine post_ret_then ?_
          refine post_ret_then ?_
          refine post_ret_block ?_
          refine post_ret_then ?_
          refine post_ret (rs := [.tmp 2]) rfl (List.Perm.refl _) (.cons (.tmp rfl) .nil) (List.nil_sublist _) ?_
          exact ⟨by rw [hta]; rfl, rfl⟩
        · have hc1' : trivL c[k] = false := hc1
          rw [hc1'] at hta
          refine code_skip ?_
          refine post_out ?_
          refine post_next ?_
          refine code_region ?_
          refine op_v (v_addb rfl rfl rfl (by omega)) rfl ?_
          refine op_v (v_move rfl) rfl ?_
          refine ops_nil ?_
          refine PostJ.view (View.drop Del.here) ?_
          refine post_again (c.length - (k + 1)) [(0, .slice ad c.length c0), (6, .slice ad c.length c0), (7, .int .i64 c.length), (8, .int .i64 (k + 1 : Nat))] (by omega) ⟨k + 1, rfl, hlt, rfl, Imm.leA, rfl, by rw [hta]; rfl⟩ ⟨rfl, rfl, rfl, rfl, trivial⟩
  · have hge : k = c.length := by simp at hc0; omega
    subst hge
    rw [List.drop_length] at hta
    refine code_exit ?_
    refine post_exit_then ?_
    refine post_exit_then ?_
    refine post_exit ?_
    refine post_next ?_
    refine code_seq ?_
    refine code_region ?_
    refine op_v (v_assign rfl) rfl ?_
    refine ops_nil ?_
    refine post_next ?_
    refine code_ret ?_
    refine post_ret (rs := [.tmp 2]) rfl (List.Perm.refl _) (.cons (.tmp rfl) .nil) (List.nil_sublist _) ?_
    exact ⟨by rw [hta]; rfl, rfl⟩
def chkLs (gs : List Sy) : List Li → Int
  | [] => 0
  | x :: r => if litG gs x ≠ 0 then litG gs x else chkLs gs r
def chkC (gs : List Sy) (c : List Li) : Int := if chkG gs ≠ 0 then chkG gs else if 32 < c.length then 2 else chkLs gs c
theorem chkLs_ok {gs : List Sy} : ∀ {c : List Li}, chkLs gs c = 0 ↔ ∀ x ∈ c, litG gs x = 0
  | [] => by simp [chkLs]
  | x :: r => by
    have ih := chkLs_ok (gs := gs) (c := r)
    simp only [chkLs]
    by_cases h : litG gs x ≠ 0
    · rw [if_pos h]; exact ⟨fun q => absurd q h, fun q => absurd (q x (List.mem_cons_self ..)) h⟩
    · rw [if_neg h, ih]
      exact ⟨fun q y hy => by rcases List.mem_cons.1 hy with rfl | hy; exact Classical.not_not.1 h; exact q y hy, fun q y hy => q y (List.mem_cons_of_mem _ hy)⟩
theorem CCheck_does {I : Imm} {vg v : Value} {gs : List Sy} {c : List Li} (hg : RepG I vg gs) (hv : RepC I v c) (hs : SmC c) :
    Does Tryz.prog 25 [vg, v] I [] (fun v I' δ' => v = .int .i64 (chkC gs c) ∧ δ' = []) := by
  obtain ⟨ad, c0, xs, rfl, hc, hb, hcells, hrow⟩ := hv
  refine Does.intro Tryz.func25 rfl Tryz.ntmps25 rfl fun w0 => ?_
  refine code_seq ?_
  refine code_region ?_
  refine op_v (v_assign rfl) rfl ?_
  refine ops_nil ?_
  refine post_next ?_
  refine code_seq ?_
  refine code_seq ?_
  refine code_region ?_
  refine op_v (v_move rfl) rfl ?_
  refine op_call pl67 rfl rfl ((GCheck_does hg)) Parts.none ?_
  rintro v10 I10 _ hI10 ⟨rfl, rfl⟩
  refine op_v (v_assign rfl) rfl ?_
  refine ops_nil ?_
  refine post_next ?_
  refine code_seq ?_
  refine code_region ?_
  refine op_v (v_move rfl) rfl ?_
  by_cases h12 : chkG gs ≠ 0
  · refine op_v (v_cmptA rfl rfl rfl) rfl ?_
    refine ops_nil ?_
    refine post_next ?_
    refine code_cond_t rfl ?_
    refine code_seq ?_
    refine code_region ?_
    refine op_v (v_move rfl) rfl ?_
    refine op_v (v_assign rfl) rfl ?_
    refine ops_nil ?_
    refine post_next ?_
    refine code_ret ?_
    refine post_ret_then ?_
    refine post_ret (rs := [.tmp 4]) rfl (List.Perm.refl _) (.cons (.tmp rfl) .nil) (List.nil_sublist _) ?_
    exact ⟨by rw [show chkC gs c = chkG gs from if_pos h12]; rfl, rfl⟩
  · refine op_v (v_cmpfA rfl rfl rfl) rfl ?_
    refine ops_nil ?_
    refine post_next ?_
    refine code_cond_f rfl ?_
    refine code_skip ?_
    refine post_next ?_
    refine code_seq ?_
    refine code_seq ?_
    refine code_region ?_
    refine op_v (v_move rfl) rfl ?_
    refine op_v (v_len Tryz.underlying23 rfl) rfl ?_
    by_cases h16 : 32 < c.length
    · refine op_v (v_cmptA rfl rfl rfl) rfl ?_
      refine ops_nil ?_
      refine post_next ?_
      refine code_cond_t rfl ?_
      refine code_seq ?_
      refine code_region ?_
      refine op_v (v_assign rfl) rfl ?_
      refine ops_nil ?_
      refine post_next ?_
      refine code_ret ?_
      refine post_ret_then ?_
      refine post_ret (rs := [.tmp 4]) rfl (List.Perm.refl _) (.cons (.tmp rfl) .nil) (List.nil_sublist _) ?_
      exact ⟨by unfold chkC; rw [if_neg h12, if_pos h16]; rfl, rfl⟩
    · have hck : chkC gs c = chkLs gs c := by unfold chkC; rw [if_neg h12, if_neg h16]
      refine op_v (v_cmpfA rfl rfl rfl) rfl ?_
      refine ops_nil ?_
      refine post_next ?_
      refine code_cond_f rfl ?_
      refine code_skip ?_
      refine post_next ?_
      refine code_seq ?_
      refine code_seq ?_
      refine code_region ?_
      refine op_v (v_move rfl) rfl ?_
      refine op_v (v_len Tryz.underlying23 rfl) rfl ?_
      refine op_v (v_move rfl) rfl ?_
      refine ops_nil ?_
      refine post_next ?_
      refine code_block ?_
      refine code_loop (fun m σ' I' δ' => ∃ k : Nat, m = c.length - k ∧ k ≤ c.length ∧ σ' = [(0, vg), (17, .slice ad c.length c0), (18, .int .i64 c.length), (19, .int .i64 k)] ∧ I.le I' ∧ δ' = [] ∧ chkLs gs c = chkLs gs (c.drop k)) c.length [(0, vg), (17, .slice ad c.length c0), (18, .int .i64 c.length), (19, .int .i64 (0 : Nat))] ⟨0, rfl, Nat.zero_le _, rfl, Imm.leA, rfl, rfl⟩ ⟨rfl, rfl, rfl, rfl, trivial⟩ ?_
      rintro m _ I0 _ ⟨k, rfl, hk, rfl, hI0, rfl, hta⟩
      refine code_seq ?_
      refine code_region ?_
      refine op_v (v_cmp rfl rfl rfl) rfl ?_
      refine ops_nil ?_
      refine post_next ?_
      refine code_seq ?_
      refine code_cond rfl (fun hc2 => ?_) (fun hc2 => ?_)
      · have hlt : k < c.length := by simpa using hc2
        obtain ⟨vs, ⟨la, lc, ra, rc, rfl, hl, hr⟩, hat⟩ := hrow.cellsAt hcells hlt
        have hs1 := hat.isSome
        have hsk := hs.at hlt
        rw [List.drop_eq_getElem_cons hlt] at hta
        refine code_skip ?_
        refine post_next ?_
        refine code_seq ?_
        refine code_block ?_
        refine code_seq ?_
        refine code_region ?_
        refine op_v (v_indexA Tryz.underlying23 sz59 rfl rfl) rfl ?_
        refine op_v (v_loadI0 ty59 (hat.mono hI0) rfl rfl rfl) rfl ?_
        refine o_alloc z59 rfl rfl (fun b7 => ?_)
        refine o_store ty59 rfl rfl rfl rfl rfl (by repeat (first | exact Swap.here | apply Swap.there)) rfl ?_
        refine ops_nil ?_
        refine post_next ?_
        refine code_seq ?_
        refine code_region ?_
        refine op_v (v_move rfl) rfl ?_
        refine op_v (v_loadA ty59 rfl rfl) rfl ?_
        refine op_call pl68 rfl rfl ((LCheck_does (x := c[k]) (hg.mono hI0) ⟨la, lc, ra, rc, rfl, hl.mono hI0, hr.mono hI0⟩ hsk.1 hsk.2)) Parts.none ?_
        rintro v25 I25 _ hI25 ⟨rfl, rfl⟩
        refine op_v (v_assign rfl) rfl ?_
        refine ops_nil ?_
        refine post_next ?_
        refine code_seq ?_
        refine code_region ?_
        refine op_v (v_move rfl) rfl ?_
        by_cases h27 : litG gs c[k] ≠ 0
        · refine op_v (v_cmptA rfl rfl rfl) rfl ?_
          refine ops_nil ?_
          refine post_next ?_
          refine code_cond_t rfl ?_
          refine code_seq ?_
          refine code_region ?_
          refine op_v (v_move rfl) rfl ?_
          refine op_v (v_assign rfl) rfl ?_
          refine ops_nil ?_
          refine post_next ?_
          refine code_ret ?_
          refine post_ret_block ?_
          refine post_ret_then ?_
          refine post_ret_then ?_
          refine post_ret_block ?_
          refine post_ret_then ?_
          refine post_ret (rs := [.tmp 4]) rfl (List.Perm.refl _) (.cons (.tmp rfl) .nil) (List.nil_sublist _) ?_
          exact ⟨by rw [hck, hta, chkLs, if_pos h27]; rfl, rfl⟩
        · refine op_v (v_cmpfA rfl rfl rfl) rfl ?_
          refine ops_nil ?_
          refine post_next ?_
          refine code_cond_f rfl ?_
          refine code_skip ?_
          refine post_out ?_
          refine post_next ?_
          refine code_region ?_
          refine op_v (v_addb rfl rfl rfl (by omega)) rfl ?_
          refine op_v (v_move rfl) rfl ?_
          refine ops_nil ?_
          refine PostJ.view (View.drop Del.here) ?_
          refine post_again (c.length - (k + 1)) [(0, vg), (17, .slice ad c.length c0), (18, .int .i64 c.length), (19, .int .i64 (k + 1 : Nat))] (by omega) ⟨k + 1, rfl, hlt, rfl, Imm.leA, rfl, by rw [hta, chkLs, if_neg h27]⟩ ⟨rfl, rfl, rfl, rfl, trivial⟩
      · have hge : k = c.length := by simp at hc2; omega
        subst hge
        rw [List.drop_length] at hta
        refine code_exit ?_
        refine post_exit_then ?_
        refine post_exit_then ?_
        refine post_exit ?_
        refine post_next ?_
        refine code_seq ?_
        refine code_region ?_
        refine op_v (v_assign rfl) rfl ?_
        refine ops_nil ?_
        refine post_next ?_
        refine code_ret ?_
        refine post_ret (rs := [.tmp 4]) rfl (List.Perm.refl _) (.cons (.tmp rfl) .nil) (List.nil_sublist _) ?_
        exact ⟨by rw [hck, hta]; rfl, rfl⟩
end Go.Proofs.YtdbadicpbmndbaaGreat
/- Variables as they come: plainly, and walks: the renamer, rows and clauses of other variables, a clause's variables. -/
set_option linter.unusedVariables false
set_option linter.unusedSimpArgs false
set_option linter.unnecessarySimpa false
/- short -/
namespace Go.Proofs.YtdbadicpbmndbaaGreat
open Go Lg

/-! ### plain -/
def numOf : List Int → Int → Nat
  | [], _ => 0
  | x :: r, v => if x = v then 0 else numOf r v + 1
def addN (ns : List Int) (v : Int) : List Int := if v ∈ ns then ns else ns ++ [v]
theorem numOf_le : ∀ (ns : List Int) (v : Int), numOf ns v ≤ ns.length
  | [], _ => Nat.le_refl _
  | x :: r, v => by simp only [numOf]; split; omega; have := numOf_le r v; simp only [List.length_cons]; omega
theorem numOf_app : ∀ {ns : List Int} {v : Int} (ms : List Int), v ∈ ns → numOf (ns ++ ms) v = numOf ns v
  | x :: r, v, ms, h => by
    simp only [numOf, List.cons_append]
    by_cases e : x = v
    · rw [if_pos e, if_pos e]
    · rw [if_neg e, if_neg e, numOf_app ms (List.mem_of_ne_of_mem (fun q => e q.symm) h)]
theorem numOf_new : ∀ {ns : List Int} {v : Int}, v ∉ ns → numOf (ns ++ [v]) v = ns.length
  | [], v, _ => by simp [numOf]
  | x :: r, v, h => by
    simp only [numOf, List.cons_append]
    rw [if_neg (fun e => h (by simp [e])), numOf_new (fun q => h (List.mem_cons_of_mem _ q))]; rfl
theorem addN_mem (ns : List Int) (v : Int) : v ∈ addN ns v := by unfold addN; split; assumption; simp
theorem addN_pre (ns : List Int) (v : Int) : ∃ ms, addN ns v = ns ++ ms := by unfold addN; split; exact ⟨[], by simp⟩; exact ⟨_, rfl⟩
theorem addN_len (ns : List Int) (v : Int) : (addN ns v).length ≤ ns.length + 1 := by unfold addN; split <;> simp
mutual
def renT : List Int → T → T × List Int
  | ns, .mk h ts => if h < 0 then (.mk (-1 - (numOf (addN ns (-1 - h)) (-1 - h) : Nat)) [], addN ns (-1 - h)) else (.mk h (renL ns ts).1, (renL ns ts).2)
def renL : List Int → List T → List T × List Int
  | ns, [] => ([], ns)
  | ns, t :: r => ((renT ns t).1 :: (renL (renT ns t).2 r).1, (renL (renT ns t).2 r).2)
end
theorem renL_app : ∀ (a b : List T) (ns : List Int), renL ns (a ++ b) = ((renL ns a).1 ++ (renL (renL ns a).2 b).1, (renL (renL ns a).2 b).2)
  | [], b, ns => by simp [renL]
  | t :: r, b, ns => by simp only [List.cons_append, renL, renL_app r b]
theorem renL_one (ns : List Int) (t : T) : renL ns [t] = ([(renT ns t).1], (renT ns t).2) := by simp [renL]
theorem renL_take (ns : List Int) (ts : List T) (k : Nat) (h : k < ts.length) : renL ns (ts.take (k + 1)) = ((renL ns (ts.take k)).1 ++ [(renT (renL ns (ts.take k)).2 ts[k]).1], (renT (renL ns (ts.take k)).2 ts[k]).2) := by
  rw [List.take_succ_eq_append_getElem h, renL_app, renL_one]
theorem renL_len : ∀ (ns : List Int) (ts : List T), (renL ns ts).1.length = ts.length
  | _, [] => by simp [renL]
  | ns, t :: r => by simp [renL, renL_len _ r]
mutual
theorem renT_grow : ∀ (t : T) (ns : List Int), (renT ns t).2.length ≤ ns.length + t.size
  | .mk h ts, ns => by
    simp only [renT, T.size]
    split
    · have := addN_len ns (-1 - h); simp only; omega
    · have := renL_grow ts ns; simp only; omega
theorem renL_grow : ∀ (ts : List T) (ns : List Int), (renL ns ts).2.length ≤ ns.length + sizeL ts
  | [], ns => by simp [renL, sizeL]
  | t :: r, ns => by
    have h1 := renT_grow t ns
    have h2 := renL_grow r (renT ns t).2
    simp only [renL, sizeL]; omega
end
/-- a map of numbers -/
def MN (mp : Mp) (ns : List Int) : Prop := mp.length = ns.length ∧ ∀ v, mget mp v = if v ∈ ns then some (.int .i64 (numOf ns v : Nat)) else none
theorem MN.nil : MN [] [] := ⟨rfl, fun v => by simp [mget]⟩
theorem MN.add {mp : Mp} {ns : List Int} {v : Int} (h : MN mp ns) (hv : v ∉ ns) : MN (mput mp v (.int .i64 ns.length)) (addN ns v) := by
  have hn : mget mp v = none := by rw [h.2, if_neg hv]
  have e : addN ns v = ns ++ [v] := by unfold addN; rw [if_neg hv]
  refine ⟨?_, fun u => ?_⟩
  · have := congrArg List.length (mput_keys mp v (.int .i64 ns.length))
    rw [if_pos hn] at this
    simp only [List.length_map, List.length_append, List.length_cons, List.length_nil] at this
    rw [this, e, h.1]; simp
  · rw [mget_mput, e]
    by_cases q : v = u
    · subst q; rw [if_pos rfl, if_pos (by simp), numOf_new hv]
    · rw [if_neg q, h.2]
      by_cases m : u ∈ ns
      · rw [if_pos m, if_pos (by simp [m]), numOf_app _ m]
      · rw [if_neg m, if_neg (by simp [m]; exact fun e => q e.symm)]
/-! ### walks -/
abbrev nmE (cb m : Nat) (mp : Mp) : List Ent := [.box cb 102 [.map (some m)], .map m mp]
theorem Norm1_does {I : Imm} {cb m : Nat} {mp : Mp} {ns : List Int} {v : Int} (hm : MN mp ns) (hb : ns.length ≤ 1000000) :
    Does Tryz.prog 91 [.int .i64 v, .pointer (some ⟨cb, 0, none⟩)] I (nmE cb m mp) (fun r I' δ' => r = .int .i64 (numOf (addN ns v) v : Nat) ∧ ∃ mp', MN mp' (addN ns v) ∧ δ' = nmE cb m mp') := by
  refine Does.intro Tryz.func91 rfl Tryz.ntmps91 rfl fun w0 => ?_
  refine code_seq ?_
  refine code_region ?_
  refine op_v (v_assign rfl) rfl ?_
  refine ops_nil ?_
  refine post_next ?_
  refine code_seq ?_
  refine code_region ?_
  refine op_v (v_loadA ty102 rfl rfl) rfl ?_
  refine op_v (v_move rfl) rfl ?_
  by_cases hv : v ∈ ns
  · have hg := hm.2 v
    rw [if_pos hv] at hg
    have he : addN ns v = ns := by unfold addN; rw [if_pos hv]
    refine op_v (v_mlook2 (v := .int .i64 (numOf ns v : Nat)) (g := true) Tryz.underlying102 Tryz.underlying3 z3 rfl rfl (Has.there Has.here) (by rw [hg]; rfl) (by rw [hg]; rfl)) rfl ?_
    refine op_v (v_move rfl) rfl ?_
    refine op_v (v_extract rfl rfl) rfl ?_
    refine op_v (v_extract rfl rfl) rfl ?_
    refine op_v (v_assign rfl) rfl ?_
    refine op_v (v_assign rfl) rfl ?_
    refine ops_nil ?_
    refine post_next ?_
    refine code_seq ?_
    refine code_seq ?_
    refine code_region ?_
    refine op_v (v_move rfl) rfl ?_
    refine op_v (v_not rfl) rfl ?_
    refine ops_nil ?_
    refine post_next ?_
    refine code_cond_f rfl ?_
    refine code_skip ?_
    refine post_next ?_
    refine code_seq ?_
    refine code_region ?_
    refine op_v (v_move rfl) rfl ?_
    refine op_v (v_assign rfl) rfl ?_
    refine ops_nil ?_
    refine post_next ?_
    refine code_ret ?_
    refine post_ret (rs := [.tmp 3]) rfl (List.Perm.refl _) (.cons (.tmp rfl) .nil) (List.Sublist.refl _) ?_
    exact ⟨by rw [he]; rfl, mp, by rw [he]; exact hm, rfl⟩
  · have hg := hm.2 v
    rw [if_neg hv] at hg
    have he : addN ns v = ns ++ [v] := by unfold addN; rw [if_neg hv]
    refine op_v (v_mlook2 (v := .int .i64 0) (g := false) Tryz.underlying102 Tryz.underlying3 z3 rfl rfl (Has.there Has.here) (by rw [hg]; rfl) (by rw [hg]; rfl)) rfl ?_
    refine op_v (v_move rfl) rfl ?_
    refine op_v (v_extract rfl rfl) rfl ?_
    refine op_v (v_extract rfl rfl) rfl ?_
    refine op_v (v_assign rfl) rfl ?_
    refine op_v (v_assign rfl) rfl ?_
    refine ops_nil ?_
    refine post_next ?_
    refine code_seq ?_
    refine code_seq ?_
    refine code_region ?_
    refine op_v (v_move rfl) rfl ?_
    refine op_v (v_not rfl) rfl ?_
    refine ops_nil ?_
    refine post_next ?_
    refine code_cond_t rfl ?_
    refine code_seq ?_
    refine code_region ?_
    refine op_v (v_loadA ty102 rfl rfl) rfl ?_
    refine op_v (v_mlen Tryz.underlying102 rfl (Has.there Has.here)) rfl ?_
    rw [hm.1]
    refine op_v (v_assign rfl) rfl ?_
    refine ops_nil ?_
    refine post_next ?_
    refine code_region ?_
    refine op_v (v_loadA ty102 rfl rfl) rfl ?_
    refine op_v (v_move rfl) rfl ?_
    refine op_v (v_move rfl) rfl ?_
    refine o_mapUpdate Tryz.underlying102 Tryz.underlying3 rfl rfl rfl rfl (by repeat (first | exact Swap.here | apply Swap.there)) ?_
    refine ops_nil ?_
    refine post_next ?_
    refine code_seq ?_
    refine code_region ?_
    refine op_v (v_move rfl) rfl ?_
    refine op_v (v_assign rfl) rfl ?_
    refine ops_nil ?_
    refine post_next ?_
    refine code_ret ?_
    refine post_ret (rs := [.tmp 3]) rfl (List.Perm.refl _) (.cons (.tmp rfl) .nil) (List.Sublist.refl _) ?_
    exact ⟨by rw [he, numOf_new hv]; rfl, _, hm.add hv, rfl⟩
theorem ren_does {cb m : Nat} : ∀ (n : Nat) (t : T), t.size ≤ n → ∀ (I : Imm) (v : Value) (ns : List Int) (mp : Mp), RepT I v t → MN mp ns → ns.length + t.size ≤ 1000000 →
    Does Tryz.prog 92 [.agg #[.func (.func 91) #[] #[.pointer (some ⟨cb, 0, none⟩)]], v] I (nmE cb m mp) (fun r I' δ' => RepT I' r (renT ns t).1 ∧ ∃ mp', MN mp' (renT ns t).2 ∧ δ' = nmE cb m mp') := by
  intro n
  induction n with
  | zero => intro t ht; have := t.size_pos; omega
  | succ n ih =>
    intro t ht I v ns mp hv hmn hbd
    obtain ⟨h, ts⟩ := t
    obtain ⟨ad, c, ss, rfl, hr, hc, hb, hat, hsub⟩ := hv.elim
    have hsz : (T.mk h ts).size = 1 + sizeL ts := by simp [T.size]
    have hr0 := hr
    unfold InR at hr0
    refine Does.intro Tryz.func92 rfl Tryz.ntmps92 rfl fun w0 => ?_
    refine code_seq ?_
    refine code_region ?_
    refine o_box rfl rfl rfl (fun b2 => ?_)
    refine o_box rfl rfl rfl (fun b3 => ?_)
    refine o_alloc z48 rfl rfl (fun b4 => ?_)
    refine ops_nil ?_
    refine post_next ?_
    refine code_seq ?_
    refine code_seq ?_
    refine code_region ?_
    refine op_v (v_fieldB 0 Tryz.underlying48 rfl rfl fz3 rfl) rfl ?_
    refine op_v (v_loadA ty3 rfl rfl) rfl ?_
    by_cases hneg : h < 0
    · have hnl := numOf_le (addN ns (-1 - h)) (-1 - h)
      have hal := addN_len ns (-1 - h)
      have hre : renT ns (.mk h ts) = (.mk (-1 - (numOf (addN ns (-1 - h)) (-1 - h) : Nat)) [], addN ns (-1 - h)) := by simp only [renT]; rw [if_pos hneg]
      refine op_v (v_cmptA rfl rfl rfl) rfl ?_
      refine ops_nil ?_
      refine post_next ?_
      refine code_cond_t rfl ?_
      refine code_seq ?_
      refine code_region ?_
      refine op_v (v_fieldB 0 Tryz.underlying106 rfl rfl fz104 rfl) rfl ?_
      refine op_v (v_loadA ty104 rfl rfl) rfl ?_
      refine op_v (v_fieldB 0 Tryz.underlying48 rfl rfl fz3 rfl) rfl ?_
      refine op_v (v_loadA ty3 rfl rfl) rfl ?_
      refine op_v (v_subb rfl rfl rfl (by omega)) rfl ?_
      refine op_fcall rfl rfl rfl ((FDoes.ofFunc (args := [_]) (caps := [_]) pl91 (Norm1_does (v := -1 - h) hmn (by omega)))) (List.perm_append_comm (l₁ := [_, _, _])) ?_
      rintro v16 I16 _ hI16 ⟨rfl, mp16, hm16, rfl⟩
      refine OpsJ.view (View.perm (List.perm_append_comm (l₂ := [_, _, _]))) ?_
      refine op_v (v_subb (c := -1 - ((numOf (addN ns (-1 - h)) (-1 - h) : Nat) : Int)) rfl rfl rfl (by omega)) rfl ?_
      refine op_v (v_build bl48 rfl rfl) rfl ?_
      refine o_store ty48 rfl rfl rfl rfl rfl (by repeat (first | exact Swap.here | apply Swap.there)) rfl ?_
      refine ops_nil ?_
      refine post_next ?_
      refine code_ret ?_
      refine post_ret_then ?_
      refine post_ret (rs := [.cell 4 48]) rfl (List.Perm.refl _) (.cons (.cell rfl ty48 (by repeat (first | exact Has.here | apply Has.there)) rfl) .nil) (List.Sublist.cons _ (List.Sublist.cons _ (List.Sublist.cons _ (List.Sublist.refl _)))) ?_
      exact ⟨by rw [hre]; exact RepT.mk _ (.mk _ []) (by show InR (-1 - ((numOf (addN ns (-1 - h)) (-1 - h) : Nat) : Int)); unfold InR; omega) (RepS.nil _), mp16, by rw [hre]; exact hm16, rfl⟩
    · have hre : renT ns (.mk h ts) = (.mk h (renL ns ts).1, (renL ns ts).2) := by simp only [renT]; rw [if_neg hneg]
      refine op_v (v_cmpfA rfl rfl rfl) rfl ?_
      refine ops_nil ?_
      refine post_next ?_
      refine code_cond_f rfl ?_
      refine code_skip ?_
      refine post_next ?_
      refine code_seq ?_
      refine code_region ?_
      refine op_v (v_fieldB 0 Tryz.underlying48 rfl rfl fz3 rfl) rfl ?_
      refine op_v (v_loadA ty3 rfl rfl) rfl ?_
      refine op_v (v_build bl48 rfl rfl) rfl ?_
      refine o_alloc z48 rfl rfl (fun b5 => ?_)
      refine o_store ty48 rfl rfl rfl rfl rfl (by repeat (first | exact Swap.here | apply Swap.there)) rfl ?_
      refine ops_nil ?_
      refine post_next ?_
      refine code_seq ?_
      refine code_seq ?_
      refine code_region ?_
      refine op_v (v_fieldB 1 Tryz.underlying48 rfl rfl fz46 rfl) rfl ?_
      refine op_v (v_loadA ty46 rfl rfl) rfl ?_
      refine op_v (v_len Tryz.underlying46 rfl) rfl ?_
      refine op_v (v_move rfl) rfl ?_
      refine ops_nil ?_
      refine post_next ?_
      refine code_block ?_
      refine CodeJ.view (View.nilRow 48 2) ?_
      refine code_loop (fun mm σ' I' δ' => ∃ (k : Nat) (ar : Option Addr) (cr : Nat) (xs : List Value) (mq : Mp), mm = ts.length - k ∧ k ≤ ts.length ∧ σ' = [(2, .pointer (some ⟨b2, 0, none⟩)), (4, .pointer (some ⟨b4, 0, none⟩)), (5, .pointer (some ⟨b5, 0, none⟩)), (23, .slice ad ts.length c), (24, .int .i64 ts.length), (25, .int .i64 k)] ∧ I.le I' ∧ δ' = .row (.slice ar k cr) 48 2 k xs :: .box b5 48 [.int .i64 h, .slice ar k cr] :: .box b4 48 [.int .i64 0, .slice none 0 0] :: .box b3 48 [.int .i64 h, .slice ad ts.length c] :: .box b2 106 [.func (.func 91) #[] #[.pointer (some ⟨cb, 0, none⟩)]] :: nmE cb m mq ∧ RowT I' xs (renL ns (ts.take k)).1 ∧ MN mq (renL ns (ts.take k)).2) ts.length [(2, .pointer (some ⟨b2, 0, none⟩)), (4, .pointer (some ⟨b4, 0, none⟩)), (5, .pointer (some ⟨b5, 0, none⟩)), (23, .slice ad ts.length c), (24, .int .i64 ts.length), (25, .int .i64 (0 : Nat))] ⟨0, none, 0, [], mp, rfl, Nat.zero_le _, rfl, Imm.le_refl _, rfl, RowT.nil _, hmn⟩ ⟨rfl, rfl, rfl, rfl, rfl, rfl, trivial⟩ ?_
      rintro mm _ I1 _ ⟨k, ar, cr, xs, mq, rfl, hk, rfl, hI1, rfl, hp, hmq⟩
      have hgr := renL_grow (ts.take k) ns
      refine code_seq ?_
      refine code_region ?_
      refine op_v (v_cmp rfl rfl rfl) rfl ?_
      refine ops_nil ?_
      refine post_next ?_
      refine code_seq ?_
      refine code_cond rfl (fun hc1 => ?_) (fun hc1 => ?_)
      · have hlt : k < ts.length := by simpa using hc1
        have hs1 := (hat k hlt).isSome
        have hm1 := sizeL_mem ts k hlt
        have hst := sizeL_take ts k hlt
        have hsd : sizeL (ts.take (k + 1)) + sizeL (ts.drop (k + 1)) = sizeL ts := by rw [← sizeL_app, List.take_append_drop]
        have hrt := renL_take ns ts k hlt
        refine code_skip ?_
        refine post_next ?_
        refine code_seq ?_
        refine code_block ?_
        refine code_seq ?_
        refine code_region ?_
        refine op_v (v_indexA Tryz.underlying46 sz48 rfl rfl) rfl ?_
        refine op_v (v_loadI0 ty48 ((hat k hlt).mono hI1) rfl rfl rfl) rfl ?_
        refine o_alloc z48 rfl rfl (fun b7 => ?_)
        refine o_store ty48 rfl rfl rfl rfl rfl (by repeat (first | exact Swap.here | apply Swap.there)) rfl ?_
        refine ops_nil ?_
        refine post_next ?_
        refine code_draw (.fl 0 (.fl 1 (.fl 2 (.fl 3 (.ef 4 (.ef 5 (.ef 6 (.fl 7 (.ef 8 .done))))))))) (fun _ => [.box b7 48 [.int .i64 ts[k].head, .slice (ss k).1 ts[k].args.length (ss k).2], .box b5 48 [.int .i64 h, .slice ar k cr], .box b2 106 [.func (.func 91) #[] #[.pointer (some ⟨cb, 0, none⟩)]]]) mixed (by kernel_rfl) (by kernel_rfl) (fun _ => (List.Sublist.cons_cons _ (List.Sublist.cons _ (List.Sublist.cons_cons _ (List.Sublist.cons _ (List.Sublist.cons _ (List.Sublist.cons_cons _ (List.nil_sublist _)))))))) ?_
        refine e_fl rfl rfl (fun hs_ => PF.mk rfl (v_fieldB 1 Tryz.underlying48 rfl rfl fz46 rfl) hs_) ?_
        refine e_fl rfl rfl (fun hs_ => PF.mk rfl (v_loadA ty46 rfl rfl) hs_) ?_
        refine e_fl rfl rfl (fun hs_ => PF.mk rfl (v_loadA ty106 rfl rfl) hs_) ?_
        refine e_fl rfl rfl (fun hs_ => PF.mk rfl (v_loadA ty48 rfl rfl) hs_) ?_
        refine e_eff rfl (by intro cs b hc; cases hc) (by intro c hc; cases hc) ?_
        refine op_call pl92 rfl rfl ((ih ts[k] (by omega) _ _ _ _ ((hsub k hlt).mono hI1) hmq (by omega))) (List.perm_append_comm (l₁ := [_, _, _, _, _, _])) ?_
        rintro v33 I33 _ hI33 ⟨hv33, mq33, hmq33, rfl⟩
        obtain ⟨p33, q33, rfl, _⟩ := hv33.shape
        refine OpsJ.view (View.perm (List.perm_append_comm (l₂ := [_, _, _, _, _, _]))) ?_
        refine ops_nil ?_
        refine e_next rfl side_allA ?_
        refine e_eff rfl (by intro cs b hc; cases hc) (by intro c hc; cases hc) ?_
        refine o_buildSlice (xs := [(Go.Operand.tmp 33)]) Tryz.underlying46 bs48 rfl rfl rfl rfl rfl (fun b34 => ?_)
        refine ops_nil ?_
        refine e_next rfl side_allA ?_
        refine e_eff rfl (by intro cs b hc; cases hc) (by intro c hc; cases hc) ?_
        refine o_append Tryz.underlying46 bs48 rfl rfl rfl (fun v' => by repeat (first | exact Swap.here | apply Swap.there)) (Src.ofRow (by repeat (first | exact Has.here | apply Has.there)) rfl) (by first | rfl | omega | simp) (by simp [cat, cellsL, Value.oneCell']) (by omega) (by omega) (fun a35 c35 => ?_)
        refine ops_nil ?_
        refine e_next rfl side_allA ?_
        refine e_fl rfl rfl (fun hs_ => PF.mk rfl (v_fieldB 1 Tryz.underlying48 rfl rfl fz46 rfl) hs_) ?_
        refine e_eff rfl (by intro cs b hc; cases hc) (by intro c hc; cases hc) ?_
        refine o_store ty46 rfl rfl rfl rfl rfl (by repeat (first | exact Swap.here | apply Swap.there)) rfl ?_
        refine ops_nil ?_
        refine e_next_ (side_nil (by kernel_rfl)) ?_
        refine e_done ?_
        refine post_out ?_
        refine post_next ?_
        refine code_region ?_
        refine op_v (v_addb rfl rfl rfl (by omega)) rfl ?_
        refine op_v (v_move rfl) rfl ?_
        refine ops_nil ?_
        refine PostJ.view ((View.drop Del.here).trans (View.drop Del.here)) ?_
        refine post_again (ts.length - (k + 1)) [(2, .pointer (some ⟨b2, 0, none⟩)), (4, .pointer (some ⟨b4, 0, none⟩)), (5, .pointer (some ⟨b5, 0, none⟩)), (23, .slice ad ts.length c), (24, .int .i64 ts.length), (25, .int .i64 ((k + 1 : Nat) : Int))] (by omega) ⟨k + 1, a35, c35, xs ++ [.int .i64 (renT (renL ns (ts.take k)).2 ts[k]).1.head, .slice p33 (renT (renL ns (ts.take k)).2 ts[k]).1.args.length q33], mq33, rfl, hlt, rfl, Imm.leA, rfl, ?_, by rw [hrt]; exact hmq33⟩ ⟨rfl, rfl, rfl, rfl, rfl, rfl, trivial⟩
        rw [hrt]
        exact (hp.mono hI33).app (RowT.one hv33)
      · have hge : k = ts.length := by simp at hc1; omega
        subst hge
        rw [List.take_length] at hp hmq
        refine code_exit ?_
        refine post_exit_then ?_
        refine post_exit_then ?_
        refine post_exit ?_
        refine post_next ?_
        refine code_seq ?_
        refine code_region ?_
        refine OpsJ.freezeRow Del.here ?_
        rintro I38 ar2 cr2 hI38 hvr hcr hlr hcells
        cases hvr
        refine op_v (v_loadA ty48 rfl rfl) rfl ?_
        refine o_store ty48 rfl rfl rfl rfl rfl (by repeat (first | exact Swap.here | apply Swap.there)) rfl ?_
        refine ops_nil ?_
        refine post_next ?_
        refine code_ret ?_
        refine post_ret (rs := [.cell 4 48]) rfl (List.Perm.refl _) (.cons (.cell rfl ty48 (by repeat (first | exact Has.here | apply Has.there)) rfl) .nil) (List.Sublist.cons _ (List.Sublist.cons _ (List.Sublist.cons _ (List.Sublist.cons _ (List.Sublist.refl _))))) ?_
        exact ⟨by rw [hre]; have hl := renL_len ns ts; have := RowT.rep (h := h) hcells (hp.mono hI38) hr (by rw [hl]; exact hcr) (by rw [hl]; exact hb); rw [hl] at this; exact this, mq, by rw [hre]; exact hmq, rfl⟩
def badT (t : T) : Bool := decide (chkT t ≠ 0)
theorem mwrong_does {I : Imm} {v : Value} {ts : List T} (hv : RepS I v ts) (hbig : ∀ t ∈ ts, t.size ≤ 1000000000) :
    Does Tryz.prog 90 [v] I [] (fun v I' δ' => v = .bool (ts.any badT) ∧ δ' = []) := by
  have h1 : ∀ J u t, I.le J → RepT J u t → t ∈ ts → FDoes Tryz.prog (.func (.func 129) #[] #[]) [u] J [] (fun v _ δ' => v = .bool (badT t) ∧ δ' = []) := fun J u t hJ hu ht => by
    obtain ⟨ua, uc, rfl, _⟩ := hu.shape
    refine Does.toF (args := [_]) (by kernel_rfl) ?_
    refine Does.intro Tryz.func129 rfl Tryz.ntmps129 rfl fun w0 => ?_
    refine code_seq ?_
    refine code_region ?_
    refine o_box rfl rfl rfl (fun b1 => ?_)
    refine op_v (v_assign rfl) rfl ?_
    refine ops_nil ?_
    refine post_next ?_
    refine code_seq ?_
    refine code_region ?_
    refine op_v (v_loadA ty48 rfl rfl) rfl ?_
    refine op_call pl49 rfl rfl ((TCheck_does hu (hbig t ht))) Parts.none ?_
    rintro v4 I4 _ hI4 ⟨rfl, rfl⟩
    refine op_v (v_cmp (z := badT t) rfl rfl rfl) rfl ?_
    refine op_v (v_assign rfl) rfl ?_
    refine ops_nil ?_
    refine post_next ?_
    refine code_ret ?_
    refine post_ret (rs := [.tmp 2]) rfl (List.Perm.refl _) (.cons (.tmp rfl) .nil) (List.nil_sublist _) ?_
    exact ⟨rfl, rfl⟩
  refine Does.intro Tryz.func90 rfl Tryz.ntmps90 rfl fun w0 => ?_
  refine code_seq ?_
  refine code_region ?_
  refine op_v (v_assign rfl) rfl ?_
  refine ops_nil ?_
  refine post_next ?_
  refine code_seq ?_
  refine code_region ?_
  refine op_v (v_move rfl) rfl ?_
  refine op_call pl47 rfl rfl ((ContT_does hv h1)) Parts.none ?_
  rintro v4 I4 _ hI4 ⟨rfl, rfl⟩
  refine op_v (v_assign rfl) rfl ?_
  refine ops_nil ?_
  refine post_next ?_
  refine code_ret ?_
  refine post_ret (rs := [.tmp 2]) rfl (List.Perm.refl _) (.cons (.tmp rfl) .nil) (List.nil_sublist _) ?_
  exact ⟨rfl, rfl⟩
theorem MNorm_does {I : Imm} {v : Value} {ts : List T} (hv : RepS I v ts) (hbig : sizeL ts ≤ 100000) :
    Does Tryz.prog 45 [v] I [] (fun v I' δ' => ((ts.any badT = true ∧ v = .tuple #[.slice none 0 0, .int .i64 1] ∧ δ' = []) ∨ (ts.any badT = false ∧ ∃ a c xs, v = .tuple #[.slice a ts.length c, .int .i64 0] ∧ RowT I' xs (renL [] ts).1 ∧ δ' = [tRow a c ts.length xs]))) := by
  have hsz := sizeL_getL hbig
  have hv0 := hv
  obtain ⟨ad, c, ss, ts, hc, hb, hat, hr, hsub0⟩ := hv
  have hsub : ∀ i (h : i < ts.length), RepT I (.agg #[.int .i64 ts[i].head, .slice (ss i).1 ts[i].args.length (ss i).2]) ts[i] := fun i hi => RepT.mk _ _ (hr i hi) (hsub0 i hi)
  refine Does.intro Tryz.func45 rfl Tryz.ntmps45 rfl fun w0 => ?_
  refine code_seq ?_
  refine code_region ?_
  refine op_v (v_assign rfl) rfl ?_
  refine op_v (v_assign rfl) rfl ?_
  refine ops_nil ?_
  refine post_next ?_
  refine code_seq ?_
  refine code_seq ?_
  refine code_region ?_
  refine op_v (v_move rfl) rfl ?_
  refine op_call pl90 rfl rfl ((mwrong_does hv0 (fun t ht => by have := hsz t ht; omega))) Parts.none ?_
  rintro v10 I10 _ hI10 ⟨rfl, rfl⟩
  refine ops_nil ?_
  refine post_next ?_
  refine code_cond rfl (fun hc0 => ?_) (fun hc0 => ?_)
  · refine code_seq ?_
    refine code_region ?_
    refine op_v (v_assign rfl) rfl ?_
    refine op_v (v_assign rfl) rfl ?_
    refine ops_nil ?_
    refine post_next ?_
    refine code_ret ?_
    refine post_ret_then ?_
    refine post_ret (rs := [.tmp 2, .tmp 3]) rfl (List.Perm.refl _) (.cons (.tmp rfl) (.cons (.tmp rfl) .nil)) (List.nil_sublist _) ?_
    exact .inl ⟨hc0, rfl, rfl⟩
  · refine code_skip ?_
    refine post_next ?_
    refine code_seq ?_
    refine code_region ?_
    refine o_makeMap rfl (fun b11 => ?_)
    refine o_alloc z102 rfl rfl (fun b4 => ?_)
    refine o_store ty102 rfl rfl rfl rfl rfl (by repeat (first | exact Swap.here | apply Swap.there)) rfl ?_
    refine ops_nil ?_
    refine post_next ?_
    refine code_seq ?_
    refine code_region ?_
    refine op_v (v_makeFunc rfl rfl) rfl ?_
    refine op_v (v_build bl106 rfl rfl) rfl ?_
    refine o_alloc z106 rfl rfl (fun b5 => ?_)
    refine o_store ty106 rfl rfl rfl rfl rfl (by repeat (first | exact Swap.here | apply Swap.there)) rfl ?_
    refine ops_nil ?_
    refine post_next ?_
    refine code_seq ?_
    refine code_region ?_
    refine op_v (v_assign rfl) rfl ?_
    refine ops_nil ?_
    refine post_next ?_
    refine code_seq ?_
    refine code_seq ?_
    refine code_region ?_
    refine op_v (v_move rfl) rfl ?_
    refine op_v (v_len Tryz.underlying46 rfl) rfl ?_
    refine op_v (v_move rfl) rfl ?_
    refine ops_nil ?_
    refine post_next ?_
    refine code_block ?_
    refine CodeJ.view (View.nilRow 48 2) ?_
    refine code_loop (fun mm σ' I' δ' => ∃ (k : Nat) (ar : Option Addr) (cr : Nat) (xs : List Value) (mq : Mp), mm = ts.length - k ∧ k ≤ ts.length ∧ σ' = [(5, .pointer (some ⟨b5, 0, none⟩)), (6, .slice ar k cr), (14, .slice ad ts.length c), (15, .int .i64 ts.length), (16, .int .i64 k)] ∧ I10.le I' ∧ δ' = .row (.slice ar k cr) 48 2 k xs :: .box b5 106 [.func (.func 91) #[] #[.pointer (some ⟨b4, 0, none⟩)]] :: nmE b4 b11 mq ∧ RowT I' xs (renL [] (ts.take k)).1 ∧ MN mq (renL [] (ts.take k)).2) ts.length [(5, .pointer (some ⟨b5, 0, none⟩)), (6, .slice none 0 0), (14, .slice ad ts.length c), (15, .int .i64 ts.length), (16, .int .i64 (0 : Nat))] ⟨0, none, 0, [], [], rfl, Nat.zero_le _, rfl, Imm.le_refl _, rfl, RowT.nil _, MN.nil⟩ ⟨rfl, rfl, rfl, rfl, rfl, trivial⟩ ?_
    rintro mm _ I1 _ ⟨k, ar, cr, xs, mq, rfl, hk, rfl, hI1, rfl, hp, hmq⟩
    have hgr := renL_grow (ts.take k) []
    refine code_seq ?_
    refine code_region ?_
    refine op_v (v_cmp rfl rfl rfl) rfl ?_
    refine ops_nil ?_
    refine post_next ?_
    refine code_seq ?_
    refine code_cond rfl (fun hc1 => ?_) (fun hc1 => ?_)
    · have hlt : k < ts.length := by simpa using hc1
      have hs1 := (hat k hlt).isSome
      have hm1 := sizeL_mem ts k hlt
      have hst := sizeL_take ts k hlt
      have hsd : sizeL (ts.take (k + 1)) + sizeL (ts.drop (k + 1)) = sizeL ts := by rw [← sizeL_app, List.take_append_drop]
      have hrt := renL_take [] ts k hlt
      rw [List.length_nil] at hgr
      refine code_skip ?_
      refine post_next ?_
      refine code_seq ?_
      refine code_block ?_
      refine code_seq ?_
      refine code_region ?_
      refine op_v (v_indexA Tryz.underlying46 sz48 rfl rfl) rfl ?_
      refine op_v (v_loadI0 ty48 ((hat k hlt).mono Imm.leA) rfl rfl rfl) rfl ?_
      refine o_alloc z48 rfl rfl (fun b8 => ?_)
      refine o_store ty48 rfl rfl rfl rfl rfl (by repeat (first | exact Swap.here | apply Swap.there)) rfl ?_
      refine ops_nil ?_
      refine post_next ?_
      refine code_region ?_
      refine op_v (v_move rfl) rfl ?_
      refine op_v (v_loadA ty106 rfl rfl) rfl ?_
      refine op_v (v_loadA ty48 rfl rfl) rfl ?_
      refine op_call pl92 rfl rfl ((ren_does _ _ (Nat.le_refl _) _ _ _ _ ((hsub k hlt).mono Imm.leA) hmq (by omega))) (List.perm_append_comm (l₁ := [_, _, _])) ?_
      rintro v23 I23 _ hI23 ⟨hv23, mq23, hmq23, rfl⟩
      obtain ⟨p23, q23, rfl, _⟩ := hv23.shape
      refine OpsJ.view (View.perm (List.perm_append_comm (l₂ := [_, _, _]))) ?_
      refine o_buildSlice (xs := [(Go.Operand.tmp 23)]) Tryz.underlying46 bs48 rfl rfl rfl rfl rfl (fun b24 => ?_)
      refine o_append Tryz.underlying46 bs48 rfl rfl rfl (fun v' => by repeat (first | exact Swap.here | apply Swap.there)) (Src.ofRow (by repeat (first | exact Has.here | apply Has.there)) rfl) (by first | rfl | omega | simp) (by simp [cat, cellsL, Value.oneCell']) (by omega) (by omega) (fun a25 c25 => ?_)
      refine op_v (v_assign rfl) rfl ?_
      refine ops_nil ?_
      refine post_out ?_
      refine post_next ?_
      refine code_region ?_
      refine op_v (v_addb rfl rfl rfl (by omega)) rfl ?_
      refine op_v (v_move rfl) rfl ?_
      refine ops_nil ?_
      refine PostJ.view ((View.drop Del.here).trans (View.drop Del.here)) ?_
      refine post_again (ts.length - (k + 1)) [(5, .pointer (some ⟨b5, 0, none⟩)), (6, .slice a25 (k + 1) c25), (14, .slice ad ts.length c), (15, .int .i64 ts.length), (16, .int .i64 ((k + 1 : Nat) : Int))] (by omega) ⟨k + 1, a25, c25, xs ++ [.int .i64 (renT (renL [] (ts.take k)).2 ts[k]).1.head, .slice p23 (renT (renL [] (ts.take k)).2 ts[k]).1.args.length q23], mq23, rfl, hlt, rfl, Imm.leA, rfl, ?_, by rw [hrt]; exact hmq23⟩ ⟨rfl, rfl, rfl, rfl, rfl, trivial⟩
      rw [hrt]
      exact (hp.mono hI23).app (RowT.one hv23)
    · have hge : k = ts.length := by simp at hc1; omega
      subst hge
      rw [List.take_length] at hp hmq
      refine code_exit ?_
      refine post_exit_then ?_
      refine post_exit_then ?_
      refine post_exit ?_
      refine post_next ?_
      refine code_seq ?_
      refine code_region ?_
      refine op_v (v_move rfl) rfl ?_
      refine op_v (v_assign rfl) rfl ?_
      refine op_v (v_assign rfl) rfl ?_
      refine ops_nil ?_
      refine post_next ?_
      refine code_ret ?_
      refine post_ret (rs := [.tmp 2, .tmp 3]) rfl (List.Perm.refl _) (.cons (.tmp rfl) (.cons (.tmp rfl) .nil)) (List.Sublist.cons_cons _ (List.nil_sublist _)) ?_
      exact .inr ⟨hc0, _, _, _, rfl, hp, rfl⟩
def ofL : List Li → List T → List Li
  | x :: r, a :: b :: s => ⟨x.neg, a, b⟩ :: ofL r s
  | _, _ => []
theorem ofL_len : ∀ (c : List Li) (ss : List T), ss.length = 2 * c.length → (ofL c ss).length = c.length
  | [], ss, h => by cases ss <;> rfl
  | x :: r, [], h => by simp at h
  | x :: r, [a], h => by simp at h; omega
  | x :: r, a :: b :: s, h => by simp only [ofL, List.length_cons]; rw [ofL_len r s (by simp at h; omega)]
theorem ofL_take : ∀ (c : List Li) (ss : List T) (k : Nat) (hk : k < c.length) (h : ss.length = 2 * c.length), ofL (c.take (k + 1)) ss = ofL (c.take k) ss ++ [⟨c[k].neg, ss[2 * k], ss[2 * k + 1]⟩]
  | x :: r, a :: b :: s, 0, hk, h => by
    show ofL (x :: r.take 0) (a :: b :: s) = ofL [] (a :: b :: s) ++ _
    simp [ofL]
  | x :: r, a :: b :: s, k + 1, hk, h => by
    have ih := ofL_take r s k (by simpa using hk) (by simp at h; omega)
    show ofL (x :: r.take (k + 1)) (a :: b :: s) = ofL (x :: r.take k) (a :: b :: s) ++ _
    simp only [ofL, ih, List.cons_append]
    congr 1
  | [], _, k, hk, h => by simp at hk
  | x :: r, [], k, hk, h => by simp at h
  | x :: r, [a], k, hk, h => by simp at h; omega
theorem Cof_does {I : Imm} {v vs : Value} {c : List Li} {ts : List T} (hv : RepC I v c) (hs : RepS I vs ts) (hl2 : ts.length = 2 * c.length) :
    Does Tryz.prog 53 [v, vs] I [] (fun v' I' δ' => RepC I' v' (ofL c ts) ∧ δ' = []) := by
  obtain ⟨ad, c0, xs, rfl, hc, hb, hcells, hrow⟩ := hv
  obtain ⟨sd, sc, ss, ts, hc2, hb2, hat2, hr2, hsub0⟩ := hs
  have hsub : ∀ i (h : i < ts.length), RepT I (.agg #[.int .i64 ts[i].head, .slice (ss i).1 ts[i].args.length (ss i).2]) ts[i] := fun i hi => RepT.mk _ _ (hr2 i hi) (hsub0 i hi)
  refine Does.intro Tryz.func53 rfl Tryz.ntmps53 rfl fun w0 => ?_
  refine code_seq ?_
  refine code_region ?_
  refine op_v (v_assign rfl) rfl ?_
  refine ops_nil ?_
  refine post_next ?_
  refine code_seq ?_
  refine code_region ?_
  refine op_v (v_assign rfl) rfl ?_
  refine ops_nil ?_
  refine post_next ?_
  refine code_seq ?_
  refine code_seq ?_
  refine code_region ?_
  refine op_v (v_move rfl) rfl ?_
  refine op_v (v_len Tryz.underlying23 rfl) rfl ?_
  refine op_v (v_move rfl) rfl ?_
  refine ops_nil ?_
  refine post_next ?_
  refine code_block ?_
  refine CodeJ.view (View.nilRow 59 5) ?_
  refine code_loop (fun m σ' I' δ' => ∃ (k : Nat) (A : Option Addr) (c' : Nat) (ys : List Value), m = c.length - k ∧ k ≤ c.length ∧ σ' = [(1, .slice sd ts.length sc), (5, .slice A k c'), (8, .slice ad c.length c0), (9, .int .i64 c.length), (10, .int .i64 k)] ∧ I = I' ∧ δ' = [cRow A c' k ys] ∧ RowE LitE I ys (ofL (c.take k) ts)) c.length [(1, .slice sd ts.length sc), (5, .slice none 0 0), (8, .slice ad c.length c0), (9, .int .i64 c.length), (10, .int .i64 (0 : Nat))] ⟨0, none, 0, [], rfl, Nat.zero_le _, rfl, rfl, rfl, rfl⟩ ⟨rfl, rfl, rfl, rfl, rfl, trivial⟩ ?_
  rintro m _ _ _ ⟨k, A, c', ys, rfl, hk, rfl, rfl, rfl, hys⟩
  refine code_seq ?_
  refine code_region ?_
  refine op_v (v_cmp rfl rfl rfl) rfl ?_
  refine ops_nil ?_
  refine post_next ?_
  refine code_seq ?_
  refine code_cond rfl (fun hc0 => ?_) (fun hc0 => ?_)
  · have hlt : k < c.length := by simpa using hc0
    obtain ⟨vs, ⟨la, lc, ra, rc, rfl, hl, hr⟩, hat⟩ := hrow.cellsAt hcells hlt
    have hs1 := hat.isSome
    have ha1 := hat2 (2 * k) (by omega)
    have ha2 := hat2 (2 * k + 1) (by omega)
    have hs2 := ha1.isSome
    refine code_skip ?_
    refine post_next ?_
    refine code_seq ?_
    refine code_block ?_
    refine code_seq ?_
    refine code_region ?_
    refine op_v (v_move rfl) rfl ?_
    refine op_v (v_indexA Tryz.underlying23 sz59 rfl rfl) rfl ?_
    refine op_v (v_loadI0 ty59 (hat) rfl rfl rfl) rfl ?_
    refine o_alloc z59 rfl rfl (fun b7 => ?_)
    refine op_v (v_assign rfl) rfl ?_
    refine o_store ty59 rfl rfl rfl rfl rfl (by repeat (first | exact Swap.here | apply Swap.there)) rfl ?_
    refine ops_nil ?_
    refine post_next ?_
    refine code_draw (.fl 0 (.fl 1 (.fl 2 (.fl 3 (.fl 4 (.fl 5 (.fl 6 (.fl 7 (.fl 8 (.fl 9 (.fl 10 (.fl 11 (.fl 12 (.fl 13 (.fl 14 (.ef 15 (.ef 16 (.ef 17 .done)))))))))))))))))) (fun _ => [.box b7 59 (liC c[k] la lc ra rc)]) mixed (by kernel_rfl) (by kernel_rfl) (fun _ => (List.Sublist.cons_cons _ (List.nil_sublist _))) ?_
    refine e_fl rfl rfl (fun hs_ => PF.mk rfl (v_move rfl) hs_) ?_
    refine e_fl rfl rfl (fun hs_ => PF.mk rfl (v_fieldB 0 Tryz.underlying59 rfl rfl fz4 rfl) hs_) ?_
    refine e_fl rfl rfl (fun hs_ => PF.mk rfl (v_loadA ty4 rfl rfl) hs_) ?_
    refine e_fl rfl rfl (fun hs_ => PF.mk rfl (v_move rfl) hs_) ?_
    refine e_fl rfl rfl (fun hs_ => PF.mk rfl (v_move rfl) hs_) ?_
    refine e_fl rfl rfl (fun hs_ => PF.mk rfl (v_mulb (c := ((2 * k : Nat) : Int)) rfl rfl (by omega) (by omega)) hs_) ?_
    refine e_fl rfl rfl (fun hs_ => PF.mk rfl (v_indexA Tryz.underlying46 sz48 rfl rfl) hs_) ?_
    refine e_fl rfl rfl (fun hs_ => PF.mk rfl (v_loadI0 ty48 (ha1) rfl rfl rfl) hs_) ?_
    refine e_fl rfl rfl (fun hs_ => PF.mk rfl (v_move rfl) hs_) ?_
    refine e_fl rfl rfl (fun hs_ => PF.mk rfl (v_move rfl) hs_) ?_
    refine e_fl rfl rfl (fun hs_ => PF.mk rfl (v_mulb (c := ((2 * k : Nat) : Int)) rfl rfl (by omega) (by omega)) hs_) ?_
    refine e_fl rfl rfl (fun hs_ => PF.mk rfl (v_addb (c := ((2 * k + 1 : Nat) : Int)) rfl rfl (by omega) (by omega)) hs_) ?_
    refine e_fl rfl rfl (fun hs_ => PF.mk rfl (v_indexA Tryz.underlying46 sz48 rfl rfl) hs_) ?_
    refine e_fl rfl rfl (fun hs_ => PF.mk rfl (v_loadI0 ty48 (ha2) rfl rfl rfl) hs_) ?_
    refine e_fl rfl rfl (fun hs_ => PF.mk rfl (v_build bl59 rfl rfl) hs_) ?_
    refine e_eff rfl (by intro cs b hc; cases hc) (by intro c hc; cases hc) ?_
    refine o_buildSlice (xs := [(Go.Operand.tmp 29)]) Tryz.underlying23 bs59 rfl rfl rfl rfl rfl (fun b30 => ?_)
    refine ops_nil ?_
    refine e_next rfl side_allA ?_
    refine e_eff rfl (by intro cs b hc; cases hc) (by intro c hc; cases hc) ?_
    refine o_append Tryz.underlying23 bs59 rfl rfl rfl (fun v' => by repeat (first | exact Swap.here | apply Swap.there)) (Src.ofRow (by repeat (first | exact Has.here | apply Has.there)) rfl) (by first | rfl | omega | simp) (by simp [cat, cellsL, Value.oneCell']) (by omega) (by omega) (fun a31 c31 => ?_)
    refine ops_nil ?_
    refine e_next rfl side_allA ?_
    refine e_eff rfl (by intro cs b hc; cases hc) (by intro c hc; cases hc) ?_
    refine op_v (v_assign rfl) rfl ?_
    refine ops_nil ?_
    refine e_next rfl (side_nil (by kernel_rfl)) ?_
    refine e_done ?_
    refine post_out ?_
    refine post_next ?_
    refine code_region ?_
    refine op_v (v_addb rfl rfl rfl (by omega)) rfl ?_
    refine op_v (v_move rfl) rfl ?_
    refine ops_nil ?_
    refine PostJ.view (View.drop Del.here) ?_
    refine PostJ.view (View.drop Del.here) ?_
    refine post_again (c.length - (k + 1)) [(1, .slice sd ts.length sc), (5, .slice a31 (k + 1) c31), (8, .slice ad c.length c0), (9, .int .i64 c.length), (10, .int .i64 (k + 1 : Nat))] (by omega) ⟨k + 1, a31, c31, ys ++ [.bool c[k].neg, .int .i64 ts[2 * k].head, .slice (ss (2 * k)).1 ts[2 * k].args.length (ss (2 * k)).2, .int .i64 ts[2 * k + 1].head, .slice (ss (2 * k + 1)).1 ts[2 * k + 1].args.length (ss (2 * k + 1)).2], rfl, hlt, rfl, rfl, ?_, ?_⟩ ⟨rfl, rfl, rfl, rfl, rfl, trivial⟩
    · simp [cat, cellsL]
    · rw [ofL_take c ts k hlt hl2]
      exact hys.app (RowE.single ⟨_, _, _, _, rfl, hsub _ _, hsub _ _⟩)
  · have hge : k = c.length := by simp at hc0; omega
    subst hge
    rw [List.take_length] at hys
    refine code_exit ?_
    refine post_exit_then ?_
    refine post_exit_then ?_
    refine post_exit ?_
    refine post_next ?_
    refine code_seq ?_
    refine code_region ?_
    refine OpsJ.freezeRow Del.here ?_
    rintro I33 a33 c33 hI33 hq hc33 hl33 hcells33
    cases hq
    refine op_v (v_move rfl) rfl ?_
    refine op_v (v_assign rfl) rfl ?_
    refine ops_nil ?_
    refine post_next ?_
    refine code_ret ?_
    refine post_ret (rs := [.tmp 4]) rfl (List.Perm.refl _) (.cons (.tmp rfl) .nil) (List.nil_sublist _) ?_
    refine ⟨?_, rfl⟩
    have h2 := ofL_len c ts hl2
    have : RepC I33 (.slice A (ofL c ts).length c') (ofL c ts) := ⟨A, c', ys, rfl, by omega, by omega, hcells33, hys.mono hI33⟩
    rw [h2] at this; exact this
def normC (c : List Li) : List Li := ofL c (renL [] (sidesL c)).1
theorem CNorm_does {I : Imm} {v : Value} {c : List Li} (hv : RepC I v c) (hbig : sizeL (sidesL c) ≤ 100000) :
    Does Tryz.prog 61 [v] I [] (fun v I' δ' => (((sidesL c).any badT = true ∧ v = .tuple #[.slice none 0 0, .int .i64 1]) ∨ ((sidesL c).any badT = false ∧ ∃ a k, v = .tuple #[.slice a c.length k, .int .i64 0] ∧ RepC I' (.slice a c.length k) (normC c))) ∧ δ' = []) := by
  have h2 := sidesL_len c
  refine Does.intro Tryz.func61 rfl Tryz.ntmps61 rfl fun w0 => ?_
  refine code_seq ?_
  refine code_region ?_
  refine op_v (v_assign rfl) rfl ?_
  refine op_v (v_assign rfl) rfl ?_
  refine ops_nil ?_
  refine post_next ?_
  refine code_seq ?_
  refine code_region ?_
  refine op_v (v_move rfl) rfl ?_
  refine op_call pl46 rfl rfl ((Cterms_does hv)) Parts.none ?_
  rintro v8 I8 _ hI8 ⟨hs8, rfl⟩
  refine op_call pl45 rfl rfl ((MNorm_does hs8 hbig)) Parts.none ?_
  rintro v9 I9 δ9 hI9 HR9
  refine op_v (v_move rfl) rfl ?_
  rcases HR9 with ⟨hbad, rfl, rfl⟩ | ⟨hgood, a9, c9, zs9, rfl, hz9, rfl⟩
  · refine op_v (v_extract rfl rfl) rfl ?_
    refine op_v (v_extract rfl rfl) rfl ?_
    refine op_v (v_assign rfl) rfl ?_
    refine op_v (v_assign rfl) rfl ?_
    refine ops_nil ?_
    refine post_next ?_
    refine code_seq ?_
    refine code_seq ?_
    refine code_region ?_
    refine op_v (v_move rfl) rfl ?_
    refine op_v (v_cmptA rfl rfl rfl) rfl ?_
    refine ops_nil ?_
    refine post_next ?_
    refine code_cond_t rfl ?_
    refine code_seq ?_
    refine code_region ?_
    refine op_v (v_move rfl) rfl ?_
    refine op_v (v_assign rfl) rfl ?_
    refine op_v (v_assign rfl) rfl ?_
    refine ops_nil ?_
    refine post_next ?_
    refine code_ret ?_
    refine post_ret_then ?_
    refine post_ret (rs := [.tmp 2, .tmp 3]) rfl (List.Perm.refl _) (.cons (.tmp rfl) (.cons (.tmp rfl) .nil)) (List.nil_sublist _) ?_
    exact ⟨.inl ⟨hbad, rfl⟩, rfl⟩
  · refine OpsJ.freezeRow Del.here ?_
    rintro I10 a10 c10 hI10 hq hc10 hl10 hcells10
    cases hq
    have hrl : (renL [] (sidesL c)).1.length = (sidesL c).length := renL_len _ _
    have hr9 : RepS I10 (.slice a9 (sidesL c).length c9) (renL [] (sidesL c)).1 := RowT.repS hrl.symm hcells10 (hz9.mono hI10) hc10 (by rw [h2]; have := hv.small; omega)
    refine op_v (v_extract rfl rfl) rfl ?_
    refine op_v (v_extract rfl rfl) rfl ?_
    refine op_v (v_assign rfl) rfl ?_
    refine op_v (v_assign rfl) rfl ?_
    refine ops_nil ?_
    refine post_next ?_
    refine code_seq ?_
    refine code_seq ?_
    refine code_region ?_
    refine op_v (v_move rfl) rfl ?_
    refine op_v (v_cmpfA rfl rfl rfl) rfl ?_
    refine ops_nil ?_
    refine post_next ?_
    refine code_cond_f rfl ?_
    refine code_skip ?_
    refine post_next ?_
    refine code_seq ?_
    refine code_region ?_
    refine op_v (v_move rfl) rfl ?_
    refine op_v (v_move rfl) rfl ?_
    refine op_call pl53 rfl rfl ((Cof_does (hv.mono Imm.leA) hr9 (by rw [renL_len]; exact h2))) Parts.none ?_
    rintro v17 I17 _ hI17 ⟨hr17, rfl⟩
    have hl17 : (normC c).length = c.length := ofL_len c _ (by rw [renL_len]; exact h2)
    obtain ⟨a17, c17, hsh⟩ := RepE.shape hr17
    rw [show (ofL c (renL [] (sidesL c)).1).length = c.length from hl17] at hsh
    subst hsh
    refine op_v (v_assign rfl) rfl ?_
    refine op_v (v_assign rfl) rfl ?_
    refine ops_nil ?_
    refine post_next ?_
    refine code_ret ?_
    refine post_ret (rs := [.tmp 2, .tmp 3]) rfl (List.Perm.refl _) (.cons (.tmp rfl) (.cons (.tmp rfl) .nil)) (List.nil_sublist _) ?_
    exact ⟨.inr ⟨hgood, a17, c17, rfl, hr17⟩, rfl⟩
/-! ### a clause's variables -/
def uniL (acc l : List Int) : List Int := l.foldl addN acc
theorem uniL_app (acc a b : List Int) : uniL acc (a ++ b) = uniL (uniL acc a) b := by simp [uniL]
theorem uniL_len (acc l : List Int) : (uniL acc l).length ≤ acc.length + l.length := by
  induction l generalizing acc with
  | nil => simp [uniL]
  | cons x r ih =>
    have h1 := addN_len acc x
    have h2 := ih (addN acc x)
    show (uniL (addN acc x) r).length ≤ _
    simp only [List.length_cons]; omega
theorem uniL_mem (acc l : List Int) (v : Int) : v ∈ uniL acc l ↔ v ∈ acc ∨ v ∈ l := by
  induction l generalizing acc with
  | nil => simp [uniL]
  | cons x r ih =>
    have h1 : v ∈ addN acc x ↔ v ∈ acc ∨ v = x := by
      unfold addN
      split
      · constructor
        · exact .inl
        · rintro (h | rfl); exact h; assumption
      · simp
    show v ∈ uniL (addN acc x) r ↔ _
    rw [ih, h1, List.mem_cons, or_assoc]
def varsGo (acc : List Int) (ts : List T) : List Int := ts.foldl (fun a t => uniL a (varsP (partsT 1 t))) acc
def varsC (c : List Li) : List Int := varsGo [] (sidesL c)
end Go.Proofs.YtdbadicpbmndbaaGreat
/- Walks: how two literals stand; a literal oriented; the example of the chapter on literals. -/
set_option linter.unusedVariables false
set_option linter.unusedSimpArgs false
set_option linter.unnecessarySimpa false
/- short -/
namespace Go.Proofs.YtdbadicpbmndbaaGreat
open Go Lg

def litE (gs : List Sy) (x y : Li) : Int := if litG gs x ≠ 0 then litG gs x else litG gs y
theorem rowL_mem {x : Li} {t : T} (h : t ∈ rowL x) : t = x.l ∨ t = x.r := by
  unfold rowL at h
  split at h <;> simp at h <;> exact h
theorem rowL_len (x : Li) : (rowL x).length ≤ 4 := by unfold rowL; split <;> simp
theorem LCompare_does {I : Imm} {vg va vb : Value} {gs : List Sy} {x y : Li} (hg : RepG I vg gs) (ha : RepL I va x) (hb : RepL I vb y) (h1 : x.l.size ≤ 1000000000) (h2 : x.r.size ≤ 1000000000) (h3 : y.l.size ≤ 1000000000) (h4 : y.r.size ≤ 1000000000) :
    Does Tryz.prog 42 [vg, va, vb] I [] (fun v _ δ' => v = .tuple #[.int .i64 (if litE gs x y = 0 then mulG gs (rowL x) (rowL y) else 0), .int .i64 (litE gs x y)] ∧ δ' = []) := by
  have ha0 := ha
  have hb0 := hb
  obtain ⟨la, lc, ra, rc, rfl, hl, hr⟩ := ha
  obtain ⟨ma, mc, na, nc, rfl, kl, kr⟩ := hb
  have hx1 := rowL_len x
  have hy1 := rowL_len y
  refine Does.intro Tryz.func42 rfl Tryz.ntmps42 rfl fun w0 => ?_
  refine code_seq ?_
  refine code_region ?_
  refine o_box rfl rfl rfl (fun b4 => ?_)
  refine o_box rfl rfl rfl (fun b5 => ?_)
  refine op_v (v_assign rfl) rfl ?_
  refine op_v (v_assign rfl) rfl ?_
  refine ops_nil ?_
  refine post_next ?_
  refine code_seq ?_
  refine code_seq ?_
  refine code_region ?_
  refine op_v (v_move rfl) rfl ?_
  refine op_v (v_loadA ty59 rfl rfl) rfl ?_
  refine op_call pl68 rfl rfl ((LCheck_does (hg.mono Imm.leA) (ha0.mono Imm.leA) h1 h2)) Parts.none ?_
  rintro _ I12 _ hI12 ⟨rfl, rfl⟩
  refine op_v (v_assign rfl) rfl ?_
  refine ops_nil ?_
  refine post_next ?_
  refine code_seq ?_
  refine code_region ?_
  refine op_v (v_move rfl) rfl ?_
  by_cases e1 : litG gs x ≠ 0
  · refine op_v (v_cmptA rfl rfl rfl) rfl ?_
    refine ops_nil ?_
    refine post_next ?_
    refine code_cond_t rfl ?_
    refine code_seq ?_
    refine code_region ?_
    refine op_v (v_move rfl) rfl ?_
    refine op_v (v_assign rfl) rfl ?_
    refine op_v (v_assign rfl) rfl ?_
    refine ops_nil ?_
    refine post_next ?_
    refine code_ret ?_
    refine post_ret_then ?_
    refine post_ret (rs := [.tmp 6, .tmp 7]) rfl (List.Perm.refl _) (.cons (.tmp rfl) (.cons (.tmp rfl) .nil)) (List.nil_sublist _) ?_
    have e : litE gs x y = litG gs x := by unfold litE; rw [if_pos e1]
    exact ⟨by rw [e, if_neg e1]; rfl, rfl⟩
  · refine op_v (v_cmpfA rfl rfl rfl) rfl ?_
    refine ops_nil ?_
    refine post_next ?_
    refine code_cond_f rfl ?_
    refine code_skip ?_
    refine post_next ?_
    refine code_seq ?_
    refine code_seq ?_
    refine code_region ?_
    refine op_v (v_move rfl) rfl ?_
    refine op_v (v_loadA ty59 rfl rfl) rfl ?_
    refine op_call pl68 rfl rfl ((LCheck_does (hg.mono Imm.leA) (hb0.mono Imm.leA) h3 h4)) Parts.none ?_
    rintro _ I18 _ hI18 ⟨rfl, rfl⟩
    refine op_v (v_assign rfl) rfl ?_
    refine ops_nil ?_
    refine post_next ?_
    refine code_seq ?_
    refine code_region ?_
    refine op_v (v_move rfl) rfl ?_
    by_cases e2 : litG gs y ≠ 0
    · refine op_v (v_cmptA rfl rfl rfl) rfl ?_
      refine ops_nil ?_
      refine post_next ?_
      refine code_cond_t rfl ?_
      refine code_seq ?_
      refine code_region ?_
      refine op_v (v_move rfl) rfl ?_
      refine op_v (v_assign rfl) rfl ?_
      refine op_v (v_assign rfl) rfl ?_
      refine ops_nil ?_
      refine post_next ?_
      refine code_ret ?_
      refine post_ret_then ?_
      refine post_ret (rs := [.tmp 6, .tmp 7]) rfl (List.Perm.refl _) (.cons (.tmp rfl) (.cons (.tmp rfl) .nil)) (List.nil_sublist _) ?_
      have e : litE gs x y = litG gs y := by unfold litE; rw [if_neg e1]
      exact ⟨by rw [e, if_neg e2]; rfl, rfl⟩
    · have e : litE gs x y = 0 := by unfold litE; rw [if_neg e1]; omega
      obtain ⟨o1, o2⟩ := litG_ok (show litG gs x = 0 by omega)
      obtain ⟨o3, o4⟩ := litG_ok (show litG gs y = 0 by omega)
      have hw : wrongG gs (rowL x ++ rowL y) = 0 := wrongG_ok.2 fun t ht => by
        rcases List.mem_append.1 ht with h | h
        · rcases rowL_mem h with rfl | rfl <;> assumption
        · rcases rowL_mem h with rfl | rfl <;> assumption
      have hsx : ∀ t ∈ rowL x, t.size ≤ 1000000000 := fun t ht => by rcases rowL_mem ht with rfl | rfl <;> assumption
      have hsy : ∀ t ∈ rowL y, t.size ≤ 1000000000 := fun t ht => by rcases rowL_mem ht with rfl | rfl <;> assumption
      refine op_v (v_cmpfA rfl rfl rfl) rfl ?_
      refine ops_nil ?_
      refine post_next ?_
      refine code_cond_f rfl ?_
      refine code_skip ?_
      refine post_next ?_
      refine code_seq ?_
      refine code_draw (.fl 0 (.fl 1 (.fl 3 (.ef 2 (.ef 4 (.ef 5 (.fl 6 (.fl 7 (.ef 8 (.ef 9 .done)))))))))) (fun _ => _) mixed (by kernel_rfl) (by kernel_rfl) (fun _ => (List.Sublist.refl _)) ?_
      refine e_fl rfl rfl (fun hs_ => PF.mk rfl (v_move rfl) hs_) ?_
      refine e_fl rfl rfl (fun hs_ => PF.mk rfl (v_loadA ty59 rfl rfl) hs_) ?_
      refine e_fl rfl rfl (fun hs_ => PF.mk rfl (v_loadA ty59 rfl rfl) hs_) ?_
      refine e_eff rfl (by intro cs b hc; cases hc) (by intro c hc; cases hc) ?_
      refine op_call pl85 rfl rfl ((row_doesL (ha0.mono Imm.leA))) Parts.none ?_
      rintro v24 I24 _ hI24 ⟨hv24, rfl⟩
      refine ops_nil ?_
      refine e_next rfl side_allA ?_
      refine e_eff rfl (by intro cs b hc; cases hc) (by intro c hc; cases hc) ?_
      refine op_call pl85 rfl rfl ((row_doesL (hb0.mono Imm.leA))) Parts.none ?_
      rintro v26 I26 _ hI26 ⟨hv26, rfl⟩
      refine ops_nil ?_
      refine e_next rfl side_allA ?_
      refine e_eff rfl (by intro cs b hc; cases hc) (by intro c hc; cases hc) ?_
      refine op_call pl84 rfl rfl ((Multi_does (hg.mono Imm.leA) (hv24.mono Imm.leA) (hv26.mono Imm.leA) hsx hsy (by omega) (by omega))) Parts.none ?_
      rintro _ I27 _ hI27 ⟨rfl, rfl⟩
      rw [if_pos hw, hw]
      refine ops_nil ?_
      refine e_next rfl (side_nil (by kernel_rfl)) ?_
      refine e_fl rfl rfl (fun hs_ => PF.mk rfl (v_extract rfl rfl) hs_) ?_
      refine e_fl rfl rfl (fun hs_ => PF.mk rfl (v_extract rfl rfl) hs_) ?_
      refine e_eff rfl (by intro cs b hc; cases hc) (by intro c hc; cases hc) ?_
      refine op_v (v_assign rfl) rfl ?_
      refine ops_nil ?_
      refine e_next rfl (side_nil (by kernel_rfl)) ?_
      refine e_eff rfl (by intro cs b hc; cases hc) (by intro c hc; cases hc) ?_
      refine op_v (v_assign rfl) rfl ?_
      refine ops_nil ?_
      refine e_next rfl (side_nil (by kernel_rfl)) ?_
      refine e_done ?_
      refine post_next ?_
      refine code_ret ?_
      refine post_ret (rs := [.tmp 6, .tmp 7]) rfl (List.Perm.refl _) (.cons (.tmp rfl) (.cons (.tmp rfl) .nil)) (List.nil_sublist _) ?_
      exact ⟨by rw [e, if_pos rfl]; rfl, rfl⟩
def a9 : T := .mk 1 []
end Go.Proofs.YtdbadicpbmndbaaGreat
/- Walks: a clause's variables; two clauses side by side; the example of the chapter on clauses. -/
set_option linter.unusedVariables false
set_option linter.unusedSimpArgs false
set_option linter.unnecessarySimpa false
/- short -/
namespace Go.Proofs.YtdbadicpbmndbaaGreat
open Go Lg

theorem varsGo_take (ts : List T) (k : Nat) (h : k < ts.length) : varsGo [] (ts.take (k + 1)) = uniL (varsGo [] (ts.take k)) (varsP (partsT 1 ts[k])) := by
  unfold varsGo; rw [List.take_succ_eq_append_getElem h, List.foldl_append]; rfl
theorem uniL_take (acc l : List Int) (j : Nat) (h : j < l.length) : uniL acc (l.take (j + 1)) = addN (uniL acc (l.take j)) l[j] := by
  rw [List.take_succ_eq_append_getElem h, uniL_app]; rfl
theorem varsGo_len : ∀ (ts : List T) (acc : List Int), (varsGo acc ts).length ≤ acc.length + sizeL ts
  | [], acc => by simp [varsGo, sizeL]
  | t :: r, acc => by
    have h1 := uniL_len acc (varsP (partsT 1 t))
    have h2 := varsP_len (partsT 1 t)
    have h3 := varsGo_len r (uniL acc (varsP (partsT 1 t)))
    rw [partsT_length] at h2
    show (varsGo (uniL acc (varsP (partsT 1 t))) r).length ≤ _
    simp only [sizeL]; omega
theorem CVars_does {I : Imm} {v : Value} {c : List Li} (hv : RepC I v c) (hbig : sizeL (sidesL c) ≤ 100000) :
    Does Tryz.prog 50 [v] I [] (fun v I' δ' => RInts I' v (varsC c) ∧ δ' = []) := by
  obtain ⟨ts, hts⟩ : ∃ ts, ts = sidesL c := ⟨_, rfl⟩
  have hvc : varsC c = varsGo [] ts := by rw [hts]; rfl
  rw [← hts] at hbig
  have hvl := varsGo_len ts []
  rw [List.length_nil, Nat.zero_add] at hvl
  refine Does.intro Tryz.func50 rfl Tryz.ntmps50 rfl fun w0 => ?_
  refine code_seq ?_
  refine code_region ?_
  refine op_v (v_assign rfl) rfl ?_
  refine ops_nil ?_
  refine post_next ?_
  refine code_seq ?_
  refine code_region ?_
  refine op_v (v_assign rfl) rfl ?_
  refine ops_nil ?_
  refine post_next ?_
  refine code_seq ?_
  refine code_seq ?_
  refine code_region ?_
  refine op_v (v_move rfl) rfl ?_
  refine op_call pl46 rfl rfl ((Cterms_does hv)) Parts.none ?_
  rintro v9 I9 _ hI9 ⟨hs9, rfl⟩
  rw [← hts] at hs9
  obtain ⟨sd, sc, zs, rfl, hc, hb, hcells, hrow⟩ := hs9.rowE
  refine op_v (v_len Tryz.underlying46 rfl) rfl ?_
  refine op_v (v_move rfl) rfl ?_
  refine ops_nil ?_
  refine post_next ?_
  refine code_block ?_
  refine CodeJ.view (View.nilRow 3 1) ?_
  refine code_loop (fun m σ' I' δ' => ∃ (k : Nat) (A : Option Addr) (c' : Nat), m = ts.length - k ∧ k ≤ ts.length ∧ σ' = [(3, .slice A (varsGo [] (ts.take k)).length c'), (9, .slice sd ts.length sc), (10, .int .i64 ts.length), (11, .int .i64 k)] ∧ I9.le I' ∧ δ' = [iRow A c' (varsGo [] (ts.take k))] ∧ ∀ x ∈ varsGo [] (ts.take k), InR x) ts.length [(3, .slice none 0 0), (9, .slice sd ts.length sc), (10, .int .i64 ts.length), (11, .int .i64 (0 : Nat))] ⟨0, none, 0, rfl, Nat.zero_le _, rfl, Imm.le_refl _, rfl, fun x h => by cases h⟩ ⟨rfl, rfl, rfl, rfl, trivial⟩ ?_
  rintro m _ I0 _ ⟨k, A, c', rfl, hk, rfl, hI0, rfl, hin⟩
  have hgl := varsGo_len (ts.take k) []
  rw [List.length_nil, Nat.zero_add] at hgl
  refine code_seq ?_
  refine code_region ?_
  refine op_v (v_cmp rfl rfl rfl) rfl ?_
  refine ops_nil ?_
  refine post_next ?_
  refine code_seq ?_
  refine code_cond rfl (fun hc0 => ?_) (fun hc0 => ?_)
  · have hlt : k < ts.length := by simpa using hc0
    obtain ⟨vs, ⟨a, n, rfl, hr⟩, hat⟩ := hrow.cellsAt hcells hlt
    have hs1 := hat.isSome
    have hsm := sizeL_mem ts k hlt
    have hst := sizeL_take ts k hlt
    have hsd : sizeL (ts.take (k + 1)) + sizeL (ts.drop (k + 1)) = sizeL ts := by rw [← sizeL_app, List.take_append_drop]
    have hvt := varsGo_take ts k hlt
    have hpl := varsP_len (partsT 1 ts[k])
    rw [partsT_length] at hpl
    refine code_skip ?_
    refine post_next ?_
    refine code_seq ?_
    refine code_block ?_
    refine code_seq ?_
    refine code_region ?_
    refine op_v (v_indexA Tryz.underlying46 sz48 rfl rfl) rfl ?_
    refine op_v (v_loadI0 ty48 (hat.mono hI0) rfl rfl rfl) rfl ?_
    refine o_alloc z48 rfl rfl (fun b5 => ?_)
    refine o_store ty48 rfl rfl rfl rfl rfl (by repeat (first | exact Swap.here | apply Swap.there)) rfl ?_
    refine ops_nil ?_
    refine post_next ?_
    refine code_seq ?_
    refine code_region ?_
    refine op_v (v_loadA ty48 rfl rfl) rfl ?_
    refine op_call pl51 rfl rfl ((TVars_does (hr.mono hI0) (by omega))) Parts.none ?_
    rintro v16 I16 _ hI16 ⟨hv16, rfl⟩
    have hn16 := hv16.len
    obtain ⟨va, vc, rfl⟩ := hv16.shape
    refine op_v (v_len Tryz.underlying30 rfl) rfl ?_
    refine op_v (v_move rfl) rfl ?_
    refine ops_nil ?_
    refine post_next ?_
    refine code_block ?_
    refine CodeJ.view (View.drop Del.here) ?_
    refine code_loop (fun m σ' I' δ' => ∃ (j : Nat) (A : Option Addr) (c' : Nat), m = (varsP (partsT 1 ts[k])).length - j ∧ j ≤ (varsP (partsT 1 ts[k])).length ∧ σ' = [(3, .slice A (uniL (varsGo [] (ts.take k)) ((varsP (partsT 1 ts[k])).take j)).length c'), (9, .slice sd ts.length sc), (10, .int .i64 ts.length), (11, .int .i64 k), (16, .slice va (varsP (partsT 1 ts[k])).length vc), (17, .int .i64 (varsP (partsT 1 ts[k])).length), (18, .int .i64 j)] ∧ I16.le I' ∧ δ' = [iRow A c' (uniL (varsGo [] (ts.take k)) ((varsP (partsT 1 ts[k])).take j))] ∧ ∀ x ∈ uniL (varsGo [] (ts.take k)) ((varsP (partsT 1 ts[k])).take j), InR x) (varsP (partsT 1 ts[k])).length [(3, .slice A (varsGo [] (ts.take k)).length c'), (9, .slice sd ts.length sc), (10, .int .i64 ts.length), (11, .int .i64 k), (16, .slice va (varsP (partsT 1 ts[k])).length vc), (17, .int .i64 (varsP (partsT 1 ts[k])).length), (18, .int .i64 (0 : Nat))] ⟨0, A, c', rfl, Nat.zero_le _, rfl, Imm.le_refl _, ?_, hin⟩ ⟨rfl, rfl, rfl, rfl, rfl, rfl, rfl, trivial⟩ ?_
    · rfl
    rintro m _ I1 _ ⟨j, A, c', rfl, hj, rfl, hI1, rfl, hin2⟩
    have hul := uniL_len (varsGo [] (ts.take k)) ((varsP (partsT 1 ts[k])).take j)
    rw [List.length_take] at hul
    refine code_seq ?_
    refine code_region ?_
    refine op_v (v_cmp rfl rfl rfl) rfl ?_
    refine ops_nil ?_
    refine post_next ?_
    refine code_seq ?_
    refine code_cond rfl (fun hc1 => ?_) (fun hc1 => ?_)
    · have hjl : j < (varsP (partsT 1 ts[k])).length := by simpa using hc1
      have hatj := hv16.atI j hjl
      have hs2 := hatj.isSome
      have hut := uniL_take (varsGo [] (ts.take k)) (varsP (partsT 1 ts[k])) j hjl
      have hinj := hn16.2 _ (List.getElem_mem hjl)
      refine code_skip ?_
      refine post_next ?_
      refine code_seq ?_
      refine code_block ?_
      refine code_seq ?_
      refine code_region ?_
      refine op_v (v_indexA Tryz.underlying30 sz3 rfl rfl) rfl ?_
      refine op_v (v_loadI0 ty3 (hatj.mono hI1) rfl rfl rfl) rfl ?_
      refine op_v (v_assign rfl) rfl ?_
      refine ops_nil ?_
      refine post_next ?_
      refine code_seq ?_
      refine code_region ?_
      refine op_v (v_move rfl) rfl ?_
      refine op_v (v_move rfl) rfl ?_
      refine op_call pl34 rfl rfl ((Contains_does (by omega))) (Parts.one Del.here) ?_
      rintro v24 I24 _ hI24 ⟨rfl, rfl⟩
      by_cases hm : (varsP (partsT 1 ts[k]))[j] ∈ uniL (varsGo [] (ts.take k)) ((varsP (partsT 1 ts[k])).take j)
      · rw [decide_eq_true hm]
        have hae : addN (uniL (varsGo [] (ts.take k)) ((varsP (partsT 1 ts[k])).take j)) (varsP (partsT 1 ts[k]))[j] = uniL (varsGo [] (ts.take k)) ((varsP (partsT 1 ts[k])).take j) := if_pos hm
        rw [hae] at hut
        refine op_v (v_not rfl) rfl ?_
        refine ops_nil ?_
        refine post_next ?_
        refine code_cond_f rfl ?_
        refine code_skip ?_
        refine post_out ?_
        refine post_next ?_
        refine code_region ?_
        refine op_v (v_addb rfl rfl rfl (by omega)) rfl ?_
        refine op_v (v_move rfl) rfl ?_
        refine ops_nil ?_
        refine post_again ((varsP (partsT 1 ts[k])).length - (j + 1)) [(3, .slice A (uniL (varsGo [] (ts.take k)) ((varsP (partsT 1 ts[k])).take j)).length c'), (9, .slice sd ts.length sc), (10, .int .i64 ts.length), (11, .int .i64 k), (16, .slice va (varsP (partsT 1 ts[k])).length vc), (17, .int .i64 (varsP (partsT 1 ts[k])).length), (18, .int .i64 (j + 1 : Nat))] (by omega) ⟨j + 1, A, c', rfl, hjl, by rw [hut], Imm.leA, by rw [hut]; rfl, by rw [hut]; exact hin2⟩ ⟨rfl, rfl, rfl, rfl, rfl, rfl, rfl, trivial⟩
      · rw [decide_eq_false hm]
        have hae : addN (uniL (varsGo [] (ts.take k)) ((varsP (partsT 1 ts[k])).take j)) (varsP (partsT 1 ts[k]))[j] = uniL (varsGo [] (ts.take k)) ((varsP (partsT 1 ts[k])).take j) ++ [(varsP (partsT 1 ts[k]))[j]] := if_neg hm
        rw [hae] at hut
        refine op_v (v_not rfl) rfl ?_
        refine ops_nil ?_
        refine post_next ?_
        refine code_cond_t rfl ?_
        refine code_region ?_
        refine op_v (v_move rfl) rfl ?_
        refine op_v (v_move rfl) rfl ?_
        refine o_buildSlice (xs := [(Go.Operand.tmp 27)]) Tryz.underlying30 bs3 rfl rfl rfl rfl rfl (fun b28 => ?_)
        refine o_append Tryz.underlying30 bs3 rfl rfl rfl (fun v' => by repeat (first | exact Swap.here | apply Swap.there)) (Src.ofRow (by repeat (first | exact Has.here | apply Has.there)) rfl) (by first | rfl | omega | simp) (by simp [cat, cellsL, Value.oneCell']) (by omega) (by omega) (fun a29 c29 => ?_)
        refine op_v (v_assign rfl) rfl ?_
        refine ops_nil ?_
        refine post_out ?_
        refine post_next ?_
        refine code_region ?_
        refine op_v (v_addb rfl rfl rfl (by omega)) rfl ?_
        refine op_v (v_move rfl) rfl ?_
        refine ops_nil ?_
        refine PostJ.view (View.drop Del.here) ?_
        refine post_again ((varsP (partsT 1 ts[k])).length - (j + 1)) [(3, .slice a29 ((uniL (varsGo [] (ts.take k)) ((varsP (partsT 1 ts[k])).take j)).length + 1) c29), (9, .slice sd ts.length sc), (10, .int .i64 ts.length), (11, .int .i64 k), (16, .slice va (varsP (partsT 1 ts[k])).length vc), (17, .int .i64 (varsP (partsT 1 ts[k])).length), (18, .int .i64 (j + 1 : Nat))] (by omega) ⟨j + 1, a29, c29, rfl, hjl, by rw [hut]; simp, Imm.leA, by rw [hut]; simp [iRow, cat, cellsL], by rw [hut]; intro x hx; rcases List.mem_append.1 hx with h | h; exact hin2 x h; simp at h; subst h; exact hinj⟩ ⟨rfl, rfl, rfl, rfl, rfl, rfl, rfl, trivial⟩
    · have hjg : j = (varsP (partsT 1 ts[k])).length := by simp at hc1; omega
      subst hjg
      rw [List.take_length, ← hvt] at hin2
      rw [List.take_length, ← hvt]
      refine code_exit ?_
      refine post_exit_then ?_
      refine post_exit_then ?_
      refine post_exit ?_
      refine post_out ?_
      refine post_next ?_
      refine code_region ?_
      refine op_v (v_addb rfl rfl rfl (by omega)) rfl ?_
      refine op_v (v_move rfl) rfl ?_
      refine ops_nil ?_
      refine post_again (ts.length - (k + 1)) [(3, .slice A (varsGo [] (ts.take (k + 1))).length c'), (9, .slice sd ts.length sc), (10, .int .i64 ts.length), (11, .int .i64 (k + 1 : Nat))] (by omega) ⟨k + 1, A, c', rfl, hlt, rfl, Imm.leA, rfl, hin2⟩ ⟨rfl, rfl, rfl, rfl, trivial⟩
  · have hge : k = ts.length := by simp at hc0; omega
    subst hge
    rw [List.take_length] at hin hgl
    rw [List.take_length]
    refine code_exit ?_
    refine post_exit_then ?_
    refine post_exit_then ?_
    refine post_exit ?_
    refine post_next ?_
    refine code_seq ?_
    refine code_region ?_
    refine OpsJ.freezeRow Del.here ?_
    rintro I32 a32 c32 hI32 hq hc32 hl32 hcells32
    cases hq
    refine op_v (v_move rfl) rfl ?_
    refine op_v (v_assign rfl) rfl ?_
    refine ops_nil ?_
    refine post_next ?_
    refine code_ret ?_
    refine post_ret (rs := [.tmp 2]) rfl (List.Perm.refl _) (.cons (.tmp rfl) .nil) (List.nil_sublist _) ?_
    exact ⟨by rw [hvc]; exact RInts.of rfl hc32 (by omega) hcells32 hin, rfl⟩
theorem Exact10_does {I : Imm} {va vb : Value} {c d : List Li} (ha : RepC I va c) (hb : RepC I vb d) (hs : SmC c) (ht : SmC d) :
    Does Tryz.prog 21 [va, vb] I [] (fun v I' δ' => v = .bool (decide (c = d)) ∧ δ' = []) := by
  obtain ⟨ad, c0, xs, rfl, hc, hcb, hcells, hrow⟩ := ha
  obtain ⟨bd, d0, ys, rfl, hd, hdb, hcells2, hrow2⟩ := hb
  refine Does.intro Tryz.func21 rfl Tryz.ntmps21 rfl fun w0 => ?_
  refine code_seq ?_
  refine code_region ?_
  refine op_v (v_assign rfl) rfl ?_
  refine ops_nil ?_
  refine post_next ?_
  refine code_seq ?_
  refine code_seq ?_
  refine code_region ?_
  refine op_v (v_move rfl) rfl ?_
  refine op_v (v_len Tryz.underlying23 rfl) rfl ?_
  refine op_v (v_move rfl) rfl ?_
  refine op_v (v_len Tryz.underlying23 rfl) rfl ?_
  by_cases h10 : c.length ≠ d.length
  · refine op_v (v_cmptA rfl rfl rfl) rfl ?_
    refine ops_nil ?_
    refine post_next ?_
    refine code_cond_t rfl ?_
    refine code_seq ?_
    refine code_region ?_
    refine op_v (v_assign rfl) rfl ?_
    refine ops_nil ?_
    refine post_next ?_
    refine code_ret ?_
    refine post_ret_then ?_
    refine post_ret (rs := [.tmp 4]) rfl (List.Perm.refl _) (.cons (.tmp rfl) .nil) (List.nil_sublist _) ?_
    exact ⟨by rw [show decide (c = d) = false from decide_eq_false fun e => h10 (by rw [e])]; rfl, rfl⟩
  · have hlen : c.length = d.length := Classical.not_not.1 h10
    refine op_v (v_cmpfA rfl rfl rfl) rfl ?_
    refine ops_nil ?_
    refine post_next ?_
    refine code_cond_f rfl ?_
    refine code_skip ?_
    refine post_next ?_
    refine code_seq ?_
    refine code_seq ?_
    refine code_region ?_
    refine op_v (v_assign rfl) rfl ?_
    refine ops_nil ?_
    refine post_next ?_
    refine code_block ?_
    refine code_loop (fun m σ' I' δ' => ∃ k : Nat, m = c.length - k ∧ k ≤ c.length ∧ σ' = [(0, .slice ad c.length c0), (1, .slice bd d.length d0), (5, .int .i64 k)] ∧ I.le I' ∧ δ' = [] ∧ c.take k = d.take k) c.length [(0, .slice ad c.length c0), (1, .slice bd d.length d0), (5, .int .i64 (0 : Nat))] ⟨0, rfl, Nat.zero_le _, rfl, Imm.le_refl _, rfl, rfl⟩ ⟨rfl, rfl, rfl, trivial⟩ ?_
    rintro m _ I0 _ ⟨k, rfl, hk, rfl, hI0, rfl, hp⟩
    refine code_seq ?_
    refine code_seq ?_
    refine code_region ?_
    refine op_v (v_move rfl) rfl ?_
    refine op_v (v_move rfl) rfl ?_
    refine op_v (v_len Tryz.underlying23 rfl) rfl ?_
    refine op_v (v_cmp rfl rfl rfl) rfl ?_
    refine ops_nil ?_
    refine post_next ?_
    refine code_cond rfl (fun hc1 => ?_) (fun hc1 => ?_)
    · have hlt : k < c.length := by simpa using hc1
      have hlt2 : k < d.length := by omega
      obtain ⟨vs, ⟨la, lc, ra, rc, rfl, hl, hr⟩, hat⟩ := hrow.cellsAt hcells hlt
      obtain ⟨ws, ⟨ma, mc, na, nc, rfl, hml, hmr⟩, hat2⟩ := hrow2.cellsAt hcells2 hlt2
      have hs1 := hat.isSome
      have hs2 := hat2.isSome
      refine code_skip ?_
      refine post_next ?_
      refine code_seq ?_
      refine code_block ?_
      refine code_seq ?_
      refine code_draw (.fl 0 (.fl 1 (.fl 2 (.fl 3 (.fl 4 (.fl 5 (.fl 6 (.fl 7 (.ef 8 (.fl 9 .done)))))))))) (fun _ => _) mixed (by kernel_rfl) (by kernel_rfl) (fun _ => (List.Sublist.refl _)) ?_
      refine e_fl rfl rfl (fun hs_ => PF.mk rfl (v_move rfl) hs_) ?_
      refine e_fl rfl rfl (fun hs_ => PF.mk rfl (v_move rfl) hs_) ?_
      refine e_fl rfl rfl (fun hs_ => PF.mk rfl (v_indexA Tryz.underlying23 sz59 rfl rfl) hs_) ?_
      refine e_fl rfl rfl (fun hs_ => PF.mk rfl (v_loadI0 ty59 (hat.mono hI0) rfl rfl rfl) hs_) ?_
      refine e_fl rfl rfl (fun hs_ => PF.mk rfl (v_move rfl) hs_) ?_
      refine e_fl rfl rfl (fun hs_ => PF.mk rfl (v_move rfl) hs_) ?_
      refine e_fl rfl rfl (fun hs_ => PF.mk rfl (v_indexA Tryz.underlying23 sz59 rfl rfl) hs_) ?_
      refine e_fl rfl rfl (fun hs_ => PF.mk rfl (v_loadI0 ty59 (hat2.mono hI0) rfl rfl rfl) hs_) ?_
      refine e_eff rfl (by intro cs b hc; cases hc) (by intro c hc; cases hc) ?_
      refine op_call pl65 rfl rfl ((Exact_does (x := c[k]) (y := d[k]) ⟨la, lc, ra, rc, rfl, hl.mono Imm.leA, hr.mono Imm.leA⟩ ⟨ma, mc, na, nc, rfl, hml.mono Imm.leA, hmr.mono Imm.leA⟩ (hs.at hlt).1 (hs.at hlt).2 (ht.at hlt2).1 (ht.at hlt2).2)) Parts.none ?_
      rintro v25 I25 _ hI25 ⟨rfl, rfl⟩
      refine ops_nil ?_
      refine e_next rfl side_allA ?_
      by_cases h26 : c[k] = d[k]
      · rw [exactL_iff.2 h26]
        refine e_fl rfl rfl (fun hs_ => PF.mk rfl (v_not rfl) hs_) ?_
        refine e_done ?_
        refine post_next ?_
        refine code_cond_f rfl ?_
        refine code_skip ?_
        refine post_out ?_
        refine post_next ?_
        refine code_region ?_
        refine op_v (v_move rfl) rfl ?_
        refine op_v (v_addb rfl rfl rfl (by omega)) rfl ?_
        refine op_v (v_assign rfl) rfl ?_
        refine ops_nil ?_
        refine post_again (c.length - (k + 1)) [(0, .slice ad c.length c0), (1, .slice bd d.length d0), (5, .int .i64 (k + 1 : Nat))] (by omega) ⟨k + 1, rfl, hlt, rfl, Imm.leA, rfl, by rw [List.take_succ_eq_append_getElem hlt, List.take_succ_eq_append_getElem hlt2, hp, h26]⟩ ⟨rfl, rfl, rfl, trivial⟩
      · rw [show exactL c[k] d[k] = false from by cases h : exactL c[k] d[k]; rfl; exact absurd (exactL_iff.1 h) h26]
        refine e_fl rfl rfl (fun hs_ => PF.mk rfl (v_not rfl) hs_) ?_
        refine e_done ?_
        refine post_next ?_
        refine code_cond_t rfl ?_
        refine code_seq ?_
        refine code_region ?_
        refine op_v (v_assign rfl) rfl ?_
        refine ops_nil ?_
        refine post_next ?_
        refine code_ret ?_
        refine post_ret_block ?_
        refine post_ret_then ?_
        refine post_ret_then ?_
        refine post_ret_block ?_
        refine post_ret_then ?_
        refine post_ret (rs := [.tmp 4]) rfl (List.Perm.refl _) (.cons (.tmp rfl) .nil) (List.nil_sublist _) ?_
        exact ⟨by rw [show decide (c = d) = false from decide_eq_false fun e => h26 (by subst e; rfl)]; rfl, rfl⟩
    · have hge : k = c.length := by simp at hc1; omega
      rw [hge, List.take_length, hlen, List.take_length] at hp
      refine code_exit ?_
      refine post_exit_then ?_
      refine post_exit_then ?_
      refine post_exit ?_
      refine post_next ?_
      refine code_seq ?_
      refine code_region ?_
      refine op_v (v_assign rfl) rfl ?_
      refine ops_nil ?_
      refine post_next ?_
      refine code_ret ?_
      refine post_ret (rs := [.tmp 4]) rfl (List.Perm.refl _) (.cons (.tmp rfl) .nil) (List.nil_sublist _) ?_
      exact ⟨by rw [decide_eq_true hp]; rfl, rfl⟩
theorem toy10_does (I : Imm) : Does Tryz.prog 63 [] I [] (fun v I' δ' => RepG I' v gs8 ∧ δ' = []) := by
  refine Does.intro Tryz.func63 rfl Tryz.ntmps63 rfl fun w0 => ?_
  refine code_seq ?_
  refine code_region ?_
  refine op_v (v_assign rfl) rfl ?_
  refine ops_nil ?_
  refine post_next ?_
  refine code_seq ?_
  refine code_region ?_
  refine op_v (v_build bl85 rfl rfl) rfl ?_
  refine op_v (v_build bl85 rfl rfl) rfl ?_
  refine op_v (v_build bl85 rfl rfl) rfl ?_
  refine o_buildSlice (xs := [(Go.Operand.tmp 1), (Go.Operand.tmp 2), (Go.Operand.tmp 3)]) Tryz.underlying22 bs85 rfl rfl rfl rfl rfl (fun b4 => ?_)
  refine OpsJ.freezeRow Del.here ?_
  rintro I4 a4 c4 hI4 hq hc4 hl4 hcells4
  cases hq
  have hg : RepG I4 _ gs8 := RepG.of (gs := gs8) hcells4 rfl rfl hc4 (by decide) (by intro s hs; simp [gs8, truthS] at hs; rcases hs with rfl | rfl | rfl <;> exact ⟨by unfold InR; simp, by unfold InR; simp, by simp [ByteArray.size, maxLen]⟩)
  refine op_v (v_assign rfl) rfl ?_
  refine ops_nil ?_
  refine post_next ?_
  refine code_ret ?_
  refine post_ret (rs := [.tmp 0]) rfl (List.Perm.refl _) (.cons (.tmp rfl) .nil) (List.nil_sublist _) ?_
  exact ⟨hg, rfl⟩
def xv10 : T := .mk (-4) []
def fx10 : T := .mk 2 [xv10]
def A10 : Li := ⟨false, a9, fx10⟩
def N10 : Li := ⟨true, xv10, xv10⟩
def B10 : Li := ⟨false, fx10, a9⟩
def c10 : List Li := [A10, N10, B10]
def n10 : List Li := [⟨false, a9, .mk 2 [.mk (-1) []]⟩, ⟨true, .mk (-1) [], .mk (-1) []⟩, ⟨false, .mk 2 [.mk (-1) []], a9⟩]
def E10 : List Li := [⟨false, a9, a9⟩]
theorem c10_bad : (sidesL c10).any badT = false := by decide +kernel
theorem c10_norm : normC c10 = n10 := by decide +kernel
theorem c10_tidy : tidyL c10 = [A10] := by decide +kernel
theorem n10_vars : varsC n10 = [0] := by decide +kernel
theorem c10_chk : chkC gs8 c10 = 0 := by decide +kernel
theorem E10_taut : tautL E10 = true := by decide +kernel
theorem c10_sm : SmC c10 := by unfold SmC; decide +kernel
theorem E10_sm : SmC E10 := by unfold SmC; decide +kernel
theorem c10_big : sizeL (sidesL c10) ≤ 100000 := by decide +kernel
theorem n10_big : sizeL (sidesL n10) ≤ 100000 := by decide +kernel
theorem awake10_does (I : Imm) :
    Does Tryz.prog 20 [] I [] (fun v I' δ' => v = .bool true ∧ δ' = []) := by
  refine Does.intro Tryz.func20 rfl Tryz.ntmps20 rfl fun w0 => ?_
  refine code_seq ?_
  refine code_region ?_
  refine op_v (v_assign rfl) rfl ?_
  refine ops_nil ?_
  refine post_next ?_
  refine code_seq ?_
  refine code_region ?_
  refine op_call pl37 rfl rfl ((Fun_does (by unfold InR; omega) (RepS.nil _))) Parts.none ?_
  rintro v7 I7 _ hI7 ⟨hv7, rfl⟩
  change RepT I7 v7 a9 at hv7
  obtain ⟨a7, c7, rfl, _⟩ := hv7.shape
  refine o_alloc z48 rfl rfl (fun b1 => ?_)
  refine o_store ty48 rfl rfl rfl rfl rfl (by repeat (first | exact Swap.here | apply Swap.there)) rfl ?_
  refine ops_nil ?_
  refine post_next ?_
  refine code_seq ?_
  refine code_region ?_
  refine op_call pl59 rfl rfl ((Var_does (by omega) (by omega))) Parts.none ?_
  rintro v8 I8 _ hI8 ⟨hv8, rfl⟩
  change RepT I8 v8 xv10 at hv8
  obtain ⟨a8, c8, rfl, _⟩ := hv8.shape
  refine o_alloc z48 rfl rfl (fun b2 => ?_)
  refine o_store ty48 rfl rfl rfl rfl rfl (by repeat (first | exact Swap.here | apply Swap.there)) rfl ?_
  refine ops_nil ?_
  refine post_next ?_
  refine code_seq_meet (fun σ' I' δ' => ∃ (b1' b2' b3' : Nat) (fa : Option Addr) (fc : Nat), σ' = [(1, .pointer (some ⟨b1', 0, none⟩)), (2, .pointer (some ⟨b2', 0, none⟩)), (3, .pointer (some ⟨b3', 0, none⟩))] ∧ I8.le I' ∧ RepT I' (.agg #[.int .i64 fx10.head, .slice fa fx10.args.length fc]) fx10 ∧ δ' = [.box b3' 59 (liC A10 a7 c7 fa fc), .box b2' 48 [.int .i64 xv10.head, .slice a8 xv10.args.length c8], .box b1' 48 [.int .i64 a9.head, .slice a7 a9.args.length c7]]) ?_ ?_
  · refine code_draw (.fl 0 (.fl 1 (.two 2 5 (.two 3 5 (.fl 4 (.ef 5 (.ef 6 .done))) (.ef 3 (.fl 4 (.ef 6 .done)))) (.ef 2 (.ef 3 (.fl 4 (.ef 6 .done))))))) (fun _ => _) mixed (by kernel_rfl) (by kernel_rfl) (fun _ => (List.Sublist.refl _)) ?_
    refine e_fl rfl rfl (fun hs_ => PF.mk rfl (v_loadA ty48 rfl rfl) hs_) ?_
    refine e_fl rfl rfl (fun hs_ => PF.mk rfl (v_loadA ty48 rfl rfl) hs_) ?_
    refine e_two rfl (by intro cs b hc; cases hc) (by intro c hc; cases hc) rfl (by intro cs b hc; cases hc) (by intro c hc; cases hc) ?_ ?_
    · refine o_buildSlice (xs := [(Go.Operand.tmp 10)]) Tryz.underlying46 bs48 rfl rfl rfl rfl rfl (fun b11 => ?_)
      refine OpsJ.freezeRow Del.here ?_
      rintro I11 a11 c11 hI11 hq hc11 hl11 hcells11
      cases hq
      refine ops_nil ?_
      refine e_next rfl side_allA ?_
      refine e_two rfl (by intro cs b hc; cases hc) (by intro c hc; cases hc) rfl (by intro cs b hc; cases hc) (by intro c hc; cases hc) ?_ ?_
      · refine op_call pl37 rfl rfl ((Fun_does (by unfold InR; omega) (RowT.repS (ts := [xv10]) rfl (hcells11.mono Imm.leA) (RowT.one (hv8.mono Imm.leA)) hc11 (by omega)))) Parts.none ?_
        rintro v12 I12 _ hI12 ⟨hv12, rfl⟩
        change RepT I12 v12 fx10 at hv12
        obtain ⟨a12, c12, rfl, _⟩ := hv12.shape
        refine ops_nil ?_
        refine e_next rfl side_allA ?_
        refine e_fl rfl rfl (fun hs_ => PF.mk rfl (v_build (cs := liC A10 a7 c7 a12 c12) bl59 rfl rfl) hs_) ?_
        refine e_eff rfl (by intro cs b hc; cases hc) (by intro c hc; cases hc) ?_
        refine o_alloc z59 rfl rfl (fun b3 => ?_)
        refine ops_nil ?_
        refine e_next rfl side_allA ?_
        refine e_eff rfl (by intro cs b hc; cases hc) (by intro c hc; cases hc) ?_
        refine o_store ty59 rfl rfl rfl rfl rfl (by repeat (first | exact Swap.here | apply Swap.there)) rfl ?_
        refine ops_nil ?_
        refine e_next_ (side_nil (by kernel_rfl)) ?_
        refine e_done ?_
        exact post_meet _ ⟨b1, b2, b3, a12, c12, rfl, Imm.leA, hv12.mono Imm.leA, rfl⟩ ⟨rfl, rfl, rfl, trivial⟩
      · refine o_alloc z59 rfl rfl (fun b3 => ?_)
        refine ops_nil ?_
        refine e_next rfl side_allA ?_
        refine e_eff rfl (by intro cs b hc; cases hc) (by intro c hc; cases hc) ?_
        refine op_call pl37 rfl rfl ((Fun_does (by unfold InR; omega) (RowT.repS (ts := [xv10]) rfl (hcells11.mono Imm.leA) (RowT.one (hv8.mono Imm.leA)) hc11 (by omega)))) Parts.none ?_
        rintro v12 I12 _ hI12 ⟨hv12, rfl⟩
        change RepT I12 v12 fx10 at hv12
        obtain ⟨a12, c12, rfl, _⟩ := hv12.shape
        refine ops_nil ?_
        refine e_next rfl side_allA ?_
        refine e_fl rfl rfl (fun hs_ => PF.mk rfl (v_build (cs := liC A10 a7 c7 a12 c12) bl59 rfl rfl) hs_) ?_
        refine e_eff rfl (by intro cs b hc; cases hc) (by intro c hc; cases hc) ?_
        refine o_store ty59 rfl rfl rfl rfl rfl (by repeat (first | exact Swap.here | apply Swap.there)) rfl ?_
        refine ops_nil ?_
        refine e_next_ (side_nil (by kernel_rfl)) ?_
        refine e_done ?_
        exact post_meet _ ⟨b1, b2, b3, a12, c12, rfl, Imm.leA, hv12.mono Imm.leA, rfl⟩ ⟨rfl, rfl, rfl, trivial⟩
    · refine o_alloc z59 rfl rfl (fun b3 => ?_)
      refine ops_nil ?_
      refine e_next rfl side_allA ?_
      refine e_eff rfl (by intro cs b hc; cases hc) (by intro c hc; cases hc) ?_
      refine o_buildSlice (xs := [(Go.Operand.tmp 10)]) Tryz.underlying46 bs48 rfl rfl rfl rfl rfl (fun b11 => ?_)
      refine OpsJ.freezeRow Del.here ?_
      rintro I11 a11 c11 hI11 hq hc11 hl11 hcells11
      cases hq
      refine ops_nil ?_
      refine e_next rfl side_allA ?_
      refine e_eff rfl (by intro cs b hc; cases hc) (by intro c hc; cases hc) ?_
      refine op_call pl37 rfl rfl ((Fun_does (by unfold InR; omega) (RowT.repS (ts := [xv10]) rfl (hcells11.mono Imm.leA) (RowT.one (hv8.mono Imm.leA)) hc11 (by omega)))) Parts.none ?_
      rintro v12 I12 _ hI12 ⟨hv12, rfl⟩
      change RepT I12 v12 fx10 at hv12
      obtain ⟨a12, c12, rfl, _⟩ := hv12.shape
      refine ops_nil ?_
      refine e_next rfl side_allA ?_
      refine e_fl rfl rfl (fun hs_ => PF.mk rfl (v_build (cs := liC A10 a7 c7 a12 c12) bl59 rfl rfl) hs_) ?_
      refine e_eff rfl (by intro cs b hc; cases hc) (by intro c hc; cases hc) ?_
      refine o_store ty59 rfl rfl rfl rfl rfl (by repeat (first | exact Swap.here | apply Swap.there)) rfl ?_
      refine ops_nil ?_
      refine e_next_ (side_nil (by kernel_rfl)) ?_
      refine e_done ?_
      exact post_meet _ ⟨b1, b2, b3, a12, c12, rfl, Imm.leA, hv12.mono Imm.leA, rfl⟩ ⟨rfl, rfl, rfl, trivial⟩
  · rintro _ I3 _ ⟨b1, b2, b3, fa, fc, rfl, hI3, hfx, rfl⟩
    have hA : RepL I3 (.agg (liC A10 a7 c7 fa fc).toArray) A10 := ⟨a7, c7, fa, fc, rfl, hv7.mono Imm.leA, hfx⟩
    refine code_seq ?_
    refine code_draw (.fl 0 (.fl 1 (.fl 2 (.fl 3 (.fl 4 (.ef 5 (.ef 6 (.ef 7 .done)))))))) (fun _ => _) mixed (by kernel_rfl) (by kernel_rfl) (fun _ => (List.Sublist.refl _)) ?_
    refine e_fl rfl rfl (fun hs_ => PF.mk rfl (v_loadA ty59 rfl rfl) hs_) ?_
    refine e_fl rfl rfl (fun hs_ => PF.mk rfl (v_loadA ty48 rfl rfl) hs_) ?_
    refine e_fl rfl rfl (fun hs_ => PF.mk rfl (v_loadA ty48 rfl rfl) hs_) ?_
    refine e_fl rfl rfl (fun hs_ => PF.mk rfl (v_build (cs := liC N10 a8 c8 a8 c8) bl59 rfl rfl) hs_) ?_
    refine e_fl rfl rfl (fun hs_ => PF.mk rfl (v_loadA ty59 rfl rfl) hs_) ?_
    refine e_eff rfl (by intro cs b hc; cases hc) (by intro c hc; cases hc) ?_
    refine op_call pl60 rfl rfl ((Turn_does hA)) Parts.none ?_
    rintro v19 I19 _ hI19 ⟨hv19, rfl⟩
    change RepL I19 v19 B10 at hv19
    obtain ⟨ba, bc, bd, be, rfl, hbl, hbr⟩ := hv19
    refine ops_nil ?_
    refine e_next rfl side_allA ?_
    refine e_eff rfl (by intro cs b hc; cases hc) (by intro c hc; cases hc) ?_
    refine o_buildSlice (xs := [(Go.Operand.tmp 14), (Go.Operand.tmp 17), (Go.Operand.tmp 19)]) Tryz.underlying23 bs59 rfl rfl rfl rfl rfl (fun b20 => ?_)
    refine OpsJ.freezeRow Del.here ?_
    rintro I20 a20 c20 hI20 hq hc20 hl20 hcells20
    cases hq
    have hc10 : RepC I20 (.slice (some ⟨b20, 0, none⟩) 3 3) c10 := ⟨some ⟨b20, 0, none⟩, 3, _, rfl, Nat.le_refl _, by decide, hcells20, ⟨_, _, rfl, ⟨a7, c7, fa, fc, rfl, hv7.mono Imm.leA, hfx.mono Imm.leA⟩, _, _, rfl, ⟨a8, c8, a8, c8, rfl, hv8.mono Imm.leA, hv8.mono Imm.leA⟩, _, _, rfl, ⟨ba, bc, bd, be, rfl, hbl.mono Imm.leA, hbr.mono Imm.leA⟩, rfl⟩⟩
    refine ops_nil ?_
    refine e_next rfl side_allA ?_
    refine e_eff rfl (by intro cs b hc; cases hc) (by intro c hc; cases hc) ?_
    refine op_v (v_assign rfl) rfl ?_
    refine ops_nil ?_
    refine e_next rfl (side_nil (by kernel_rfl)) ?_
    refine e_done ?_
    refine post_next ?_
    refine code_seq ?_
    refine code_region ?_
    refine op_v (v_move rfl) rfl ?_
    refine op_call pl61 rfl rfl ((CNorm_does hc10 c10_big)) Parts.none ?_
    rintro v23 I23 _ hI23 ⟨HR23, rfl⟩
    obtain ⟨a23, c23, rfl, hn23⟩ : ∃ a k, v23 = .tuple #[.slice a c10.length k, .int .i64 0] ∧ RepC I23 (.slice a c10.length k) (normC c10) := by
      rcases HR23 with ⟨h, _⟩ | ⟨_, h⟩
      · rw [c10_bad] at h; cases h
      · exact h
    rw [c10_norm] at hn23
    refine op_v (v_move rfl) rfl ?_
    refine op_v (v_extract rfl rfl) rfl ?_
    refine op_v (v_extract rfl rfl) rfl ?_
    refine op_v (v_assign rfl) rfl ?_
    refine op_v (v_assign rfl) rfl ?_
    refine ops_nil ?_
    refine post_next ?_
    refine code_seq ?_
    refine code_region ?_
    refine op_v (v_move rfl) rfl ?_
    refine op_call pl62 rfl rfl ((CTidy_does (hc10.mono Imm.leA) c10_sm)) Parts.none ?_
    rintro v27 I27 _ hI27 ⟨ht27, rfl⟩
    rw [c10_tidy] at ht27
    obtain ⟨a27, c27, rfl⟩ := RepE.shape ht27
    refine op_v (v_len Tryz.underlying23 rfl) rfl ?_
    refine op_v (v_cmptA rfl rfl rfl) rfl ?_
    refine op_v (v_move rfl) rfl ?_
    refine op_want rfl rfl ?_
    refine op_v (v_move rfl) rfl ?_
    first
      | (refine op_want rfl rfl ?_
         refine op_v (v_cmptA rfl rfl rfl) rfl ?_)
      | (refine op_skip rfl rfl (by simp [undef]) rfl ?_)
    refine op_v (v_pickt rfl rfl) rfl ?_
    refine op_v (v_move rfl) rfl ?_
    refine op_want rfl rfl ?_
    refine op_v (v_move rfl) rfl ?_
    refine op_want rfl rfl ?_
    refine op_call pl50 rfl rfl ((CVars_does (hn23.mono Imm.leA) n10_big)) Parts.none ?_
    rintro v36 I36 _ hI36 ⟨hv36, rfl⟩
    rw [n10_vars] at hv36
    refine op_want rfl rfl ?_
    refine o_buildSlice (xs := [(Go.Operand.const (Go.Value.int Go.IntKind.i64 0))]) Tryz.underlying30 bs3 rfl rfl rfl rfl rfl (fun b37 => ?_)
    refine OpsJ.freezeRow Del.here ?_
    rintro I37 a37 c37 hI37 hq hc37 hl37 hcells37
    cases hq
    refine op_want rfl rfl ?_
    refine op_call pl14 rfl rfl ((Ints_does _ (hv36.mono Imm.leA) (RInts.lit (xs := [0]) hcells37 hc37 (by decide)))) Parts.none ?_
    rintro v38 I38 _ hI38 ⟨rfl, rfl⟩
    refine op_v (v_pickt rfl rfl) rfl ?_
    refine op_v (v_move rfl) rfl ?_
    refine op_want rfl rfl ?_
    refine op_call pl63 rfl rfl ((toy10_does _)) Parts.none ?_
    rintro v41 I41 _ hI41 ⟨hg41, rfl⟩
    refine op_want rfl rfl ?_
    refine op_v (v_move rfl) rfl ?_
    refine op_want rfl rfl ?_
    refine op_call pl25 rfl rfl ((CCheck_does hg41 (hc10.mono Imm.leA) c10_sm)) Parts.none ?_
    rintro v43 I43 _ hI43 ⟨rfl, rfl⟩
    rw [c10_chk]
    first
      | (refine op_want rfl rfl ?_
         refine op_v (v_cmptA rfl rfl rfl) rfl ?_)
      | (refine op_skip rfl rfl (by simp [undef]) rfl ?_)
    refine op_v (v_pickt rfl rfl) rfl ?_
    refine op_v (v_move rfl) rfl ?_
    refine op_want rfl rfl ?_
    refine op_v (v_loadA ty48 rfl rfl) rfl ?_
    refine op_want rfl rfl ?_
    refine op_v (v_loadA ty48 rfl rfl) rfl ?_
    refine op_want rfl rfl ?_
    refine op_v (v_build (cs := liC ⟨false, a9, a9⟩ a7 c7 a7 c7) bl59 rfl rfl) rfl ?_
    refine op_want rfl rfl ?_
    refine o_buildSlice (xs := [(Go.Operand.tmp 49)]) Tryz.underlying23 bs59 rfl rfl rfl rfl rfl (fun b50 => ?_)
    refine OpsJ.freezeRow Del.here ?_
    rintro I50 a50 c50 hI50 hq hc50 hl50 hcells50
    cases hq
    have hE10 : RepC I50 (.slice (some ⟨b50, 0, none⟩) 1 1) E10 := ⟨some ⟨b50, 0, none⟩, 1, _, rfl, Nat.le_refl _, by decide, hcells50, ⟨_, _, rfl, ⟨a7, c7, a7, c7, rfl, hv7.mono Imm.leA, hv7.mono Imm.leA⟩, rfl⟩⟩
    refine op_want rfl rfl ?_
    refine op_call pl64 rfl rfl ((CTaut_does hE10 E10_sm)) Parts.none ?_
    rintro v51 I51 _ hI51 ⟨rfl, rfl⟩
    rw [E10_taut]
    refine op_v (v_pickt rfl rfl) rfl ?_
    refine op_v (v_assign rfl) rfl ?_
    refine ops_nil ?_
    refine post_next ?_
    refine code_ret ?_
    refine post_ret (rs := [.tmp 0]) rfl (List.Perm.refl _) (.cons (.tmp rfl) .nil) (List.nil_sublist _) ?_
    exact ⟨rfl, rfl⟩
end Go.Proofs.YtdbadicpbmndbaaGreat
/- The order of terms, the other way round. Plain facts; no condition. -/
set_option linter.unusedVariables false
set_option linter.unusedSimpArgs false
namespace Go.Proofs.YtdbadicpbmndbaaGreat

theorem ordI_neg (a b : Int) : ordI b a = - ordI a b := by unfold ordI; split <;> split <;> (try split) <;> omega
mutual
theorem cmpT_neg : ∀ (a b : T), cmpT b a = - cmpT a b
  | .mk h p, .mk g q => by
    simp only [cmpT]
    by_cases h1 : 1 + sizeL p = 1 + sizeL q
    · by_cases h2 : h = g
      · by_cases h3 : p.length = q.length
        · have := cmpL_neg p q
          simp [h1, h2, h3, this]
        · have h3' : ¬ q.length = p.length := fun e => h3 e.symm
          have := ordI_neg (p.length : Int) q.length
          simp [h1, h2, h3, h3', this]
      · have h2' : ¬ g = h := fun e => h2 e.symm
        have := ordI_neg h g
        simp [h1, h2, h2', this]
    · have h1' : ¬ 1 + sizeL q = 1 + sizeL p := fun e => h1 e.symm
      have := ordI_neg ((1 + sizeL p : Nat) : Int) ((1 + sizeL q : Nat) : Int)
      simp only [h1, h1', ne_eq, not_false_eq_true, if_true, this]
theorem cmpL_neg : ∀ (a b : List T), cmpL b a = - cmpL a b
  | [], [] => by simp [cmpL]
  | [], _ :: _ => by simp [cmpL]
  | _ :: _, [] => by simp [cmpL]
  | a :: p, b :: q => by
    have h1 := cmpT_neg a b
    have h2 := cmpL_neg p q
    simp only [cmpL, h1, h2]
    by_cases h : cmpT a b = 0
    · simp [h]
    · have : - cmpT a b ≠ 0 := by omega
      simp [h, this]
end
end Go.Proofs.YtdbadicpbmndbaaGreat
/- Rows of things of which some are greater: what the rows' order is. Plain facts; no condition. -/
set_option linter.unusedVariables false
set_option linter.unusedSectionVars false
set_option linter.unusedSimpArgs false
namespace Go.Proofs.YtdbadicpbmndbaaGreat
section
variable {K : Type} [DecidableEq K]
def rsX : List K → List K → List K
  | [], _ => []
  | t :: r, left => if t ∈ left then rsX r (left.erase t) else t :: rsX r left
variable (g : K → K → Bool)
def overX (a b : List K) : Bool := decide (0 < a.length) && b.all fun u => a.any fun t => g t u
def mulX (a b : List K) : Int :=
  if (rsX a b).length + (rsX b a).length = 0 then 0 else if overX g (rsX a b) (rsX b a) = true then 1 else if overX g (rsX b a) (rsX a b) = true then -1 else 2
variable {g}
/-- what is greater is so both ways -/
structure OrdX (g : K → K → Bool) (Ok : K → Prop) : Prop where
  irr : ∀ x, g x x = false
  tr : ∀ x y z, Ok x → Ok y → Ok z → g x y = true → g y z = true → g x z = true
end
end Go.Proofs.YtdbadicpbmndbaaGreat
/- Rows of terms: greater than greater is greater; rows of literals. No condition. -/
set_option linter.unusedVariables false
set_option linter.unusedSimpArgs false
set_option linter.unnecessarySimpa false
namespace Go.Proofs.YtdbadicpbmndbaaGreat
open Go Lg

theorem perm2 {a b c d : T} : [a, b].Perm [c, d] ↔ (a = c ∧ b = d) ∨ (a = d ∧ b = c) := by
  constructor
  · intro h
    have hm : a ∈ [c, d] := h.mem_iff.1 (by simp)
    simp at hm
    rcases hm with rfl | rfl
    · have := h.cons_inv; simp at this; exact .inl ⟨rfl, this⟩
    · have := (h.trans (List.Perm.swap _ _ _)).cons_inv; simp at this; exact .inr ⟨rfl, this⟩
  · rintro (⟨rfl, rfl⟩ | ⟨rfl, rfl⟩)
    · exact List.Perm.refl _
    · exact List.Perm.swap _ _ _
theorem count4 (a b x : T) : [a, a, b, b].count x = 2 * [a, b].count x := by
  simp only [List.count_cons, List.count_nil]; omega
theorem rowL_perm {x y : Li} : (rowL x).Perm (rowL y) ↔ sameL x y = true := by
  have heq : eqL x y = true ↔ (x.l = y.l ∧ x.r = y.r) ∨ (x.l = y.r ∧ x.r = y.l) := by simp [eqL]
  unfold sameL
  rw [Bool.and_eq_true, heq, beq_iff_eq]
  unfold rowL
  cases hx : x.neg <;> cases hy : y.neg
  · simp only [Bool.false_eq_true, if_false, true_and]; exact perm2
  · simp only [Bool.false_eq_true, if_false, if_true, false_and, iff_false]
    intro h; have := h.length_eq; simp at this
  · simp only [Bool.false_eq_true, if_false, if_true, reduceCtorEq, false_and, iff_false]
    intro h; have := h.length_eq; simp at this
  · simp only [if_true, true_and]
    rw [← perm2, List.perm_iff_count, List.perm_iff_count]
    constructor
    · intro h z; have := h z; rw [count4, count4] at this; omega
    · intro h z; rw [count4, count4, h z]
end Go.Proofs.YtdbadicpbmndbaaGreat
/- Clauses compared: plainly, and walks. -/
set_option linter.unusedVariables false
set_option linter.unusedSimpArgs false
set_option linter.unnecessarySimpa false
/- short -/
namespace Go.Proofs.YtdbadicpbmndbaaGreat
open Go Lg

/-! ### plain: a literal with its sides in order -/
def canL (x : Li) : Li := if cmpT x.l x.r = 1 then ⟨x.neg, x.r, x.l⟩ else x
theorem canL_same (x : Li) : sameL x (canL x) = true := by
  unfold canL
  split
  · exact sameL_iff.2 ⟨rfl, .inr ⟨rfl, rfl⟩⟩
  · exact sameL_refl x
theorem canL_eq {x y : Li} : canL x = canL y ↔ sameL x y = true := by
  constructor
  · intro h; exact sameL_trans (canL_same x) (h ▸ sameL_symm (canL_same y))
  · intro h
    obtain ⟨h1, h2⟩ := sameL_iff.1 h
    obtain ⟨xn, xl, xr⟩ := x
    obtain ⟨yn, yl, yr⟩ := y
    simp only at h1 h2
    subst h1
    rcases h2 with ⟨rfl, rfl⟩ | ⟨rfl, rfl⟩
    · rfl
    · have hn := cmpT_neg xl xr
      have hr := cmpT_range xl xr
      unfold canL
      simp only
      by_cases c1 : cmpT xl xr = 1
      · rw [if_pos c1, if_neg (by omega)]
      · by_cases c2 : cmpT xr xl = 1
        · rw [if_neg c1, if_pos c2]
        · have : cmpT xl xr = 0 := by omega
          have e := (cmpT_eq _ _).1 this
          subst e; rfl
/-- one is greater -/
def gtL (gs : List Sy) (x y : Li) : Bool := decide (mulG gs (rowL x) (rowL y) = 1)
theorem mulG_permX {gs : List Sy} {a b a' b' : List T} (h : a.Perm a') (k : b.Perm b') : mulG gs a b = mulG gs a' b' :=
  mulG_perm (rsL_perm fun x => by rw [h.count_eq, k.count_eq]) (rsL_perm fun x => by rw [h.count_eq, k.count_eq])
theorem mulG_can (gs : List Sy) (x y : Li) : mulG gs (rowL (canL x)) (rowL (canL y)) = mulG gs (rowL x) (rowL y) :=
  mulG_permX (rowL_perm.2 (sameL_symm (canL_same x))) (rowL_perm.2 (sameL_symm (canL_same y)))
theorem gtL_can (gs : List Sy) (x y : Li) : gtL gs (canL x) (canL y) = gtL gs x y := by unfold gtL; rw [mulG_can]
def OkL (gs : List Sy) (x : Li) : Prop := OkG gs x.l ∧ OkG gs x.r
theorem OkL.row {gs : List Sy} {x : Li} (h : OkL gs x) : ∀ t ∈ rowL x, OkG gs t := fun t ht => by
  rcases rowL_mem ht with rfl | rfl
  · exact h.1
  · exact h.2
theorem OkL.can {gs : List Sy} {x : Li} (h : OkL gs x) : OkL gs (canL x) := by
  unfold canL
  split
  · exact ⟨h.2, h.1⟩
  · exact h
def cmpC (gs : List Sy) (c d : List Li) : Int := mulX (gtL gs) (c.map canL) (d.map canL)
theorem eraseIdx_first {α : Type} [DecidableEq α] {x : α} : ∀ {l : List α} {j : Nat} (hj : j < l.length), l[j] = x → (∀ i (h : i < l.length), i < j → l[i] ≠ x) → l.eraseIdx j = l.erase x
  | y :: r, 0, hj, h, _ => by
    simp only [List.getElem_cons_zero] at h
    subst h; simp
  | y :: r, j + 1, hj, h, hn => by
    have h0 : y ≠ x := hn 0 (by simp) (by omega)
    have ih := eraseIdx_first (l := r) (j := j) (by simpa using hj) (by simpa using h) (fun i hi hij => by have := hn (i + 1) (by simpa using hi) (by omega); simpa using this)
    rw [List.eraseIdx_cons_succ, ih, List.erase_cons, if_neg (by simpa using h0)]
theorem eraseIdx_mapX {α β : Type} (f : α → β) : ∀ (l : List α) (j : Nat), (l.map f).eraseIdx j = (l.eraseIdx j).map f
  | [], j => by simp
  | x :: r, 0 => by simp
  | x :: r, j + 1 => by simp [eraseIdx_mapX f r j]
/-! ### walks -/
theorem DeleteC_does {I : Imm} {n i c : Nat} {A : Option Addr} {xs : List Value} (hi : i < n) (hb : n ≤ 1000000000) (h1 : ∀ u ∈ xs, u.oneCell' = true) :
    Does Tryz.prog 82 [.slice A n c, .int .i64 i, .int .i64 ((i : Int) + 1)] I [cRow A c n xs] (fun v _ δ' => v = .slice A (n - 1) c ∧ δ' = [cRow A c (n - 1) (xs.take (i * 5) ++ (xs.drop ((i + 1) * 5)).take ((n - (i + 1)) * 5))]) := by
  have e1 : (i : Int) + 1 = ((i + 1 : Nat) : Int) := by omega
  have e2 : i + (n - (i + 1)) = n - 1 := by omega
  rw [e1]
  refine Does.intro Tryz.func82 rfl Tryz.ntmps82 rfl fun w0 => ?_
  refine code_seq ?_
  refine code_region ?_
  refine op_v (v_assign rfl) rfl ?_
  refine ops_nil ?_
  refine post_next ?_
  refine code_seq ?_
  refine code_region ?_
  refine OpsJ.rowSome Has.here (by omega) (fun hA hcr => ?_)
  refine op_v (v_move rfl) rfl ?_
  refine op_v (v_move rfl) rfl ?_
  refine op_v (v_move rfl) rfl ?_
  refine op_v (v_move rfl) rfl ?_
  refine op_v (v_len Tryz.underlying23 rfl) rfl ?_
  refine op_v (v_slice3 Tryz.underlying23 sz59 rfl rfl rfl rfl (by omega) (by omega) (by omega)) rfl ?_
  refine ops_nil ?_
  refine post_next ?_
  refine code_seq ?_
  refine code_seq ?_
  refine code_region ?_
  refine op_v (v_move rfl) rfl ?_
  refine op_v (v_move rfl) rfl ?_
  refine op_v (v_cmpf rfl rfl rfl (by omega)) rfl ?_
  refine ops_nil ?_
  refine post_next ?_
  refine code_cond_f rfl ?_
  refine code_skip ?_
  refine post_next ?_
  refine code_seq ?_
  refine code_region ?_
  refine op_v (v_move rfl) rfl ?_
  refine op_v (v_len Tryz.underlying23 rfl) rfl ?_
  refine op_v (v_assign rfl) rfl ?_
  refine ops_nil ?_
  refine post_next ?_
  refine code_seq ?_
  refine code_draw (.fl 0 (.fl 1 (.fl 2 (.fl 3 (.fl 4 (.fl 5 (.ef 6 (.ef 7 .done)))))))) (fun _ => []) mixed (by kernel_rfl) (by kernel_rfl) (fun _ => (List.nil_sublist _)) ?_
  refine e_float rfl rfl (fun hs_ => PF.mk rfl (v_move rfl) hs_) Imm.leA (by intro x hx; cases hx) ?_
  refine e_float rfl rfl (fun hs_ => PF.mk rfl (v_move rfl) hs_) Imm.leA (by intro x hx; cases hx) ?_
  refine e_float rfl rfl (fun hs_ => PF.mk rfl (v_sliceTo Tryz.underlying23 sz59 rfl rfl (by omega)) hs_) Imm.leA (by intro x hx; cases hx) ?_
  refine e_float rfl rfl (fun hs_ => PF.mk rfl (v_move rfl) hs_) Imm.leA (by intro x hx; cases hx) ?_
  refine e_float rfl rfl (fun hs_ => PF.mk rfl (v_move rfl) hs_) Imm.leA (by intro x hx; cases hx) ?_
  refine e_float rfl rfl (fun hs_ => PF.mk rfl (v_sliceFrom Tryz.underlying23 sz59 rfl rfl (by omega) (by omega)) hs_) Imm.leA (by intro x hx; cases hx) ?_
  refine e_eff rfl (by intro cs b hc; cases hc) (by intro c hc; cases hc) ?_
  refine o_appendSelf Tryz.underlying23 bs59 rfl rfl rfl Swap.here (by omega) (by omega) (by omega) h1 (by omega) (by omega) hA ?_
  refine ops_nil ?_
  refine e_next rfl (side_all Imm.leA (fun _ => (by intro x hx; cases hx))) ?_
  refine e_eff rfl (by intro cs b hc; cases hc) (by intro c hc; cases hc) ?_
  refine op_v (v_assign rfl) rfl ?_
  refine ops_nil ?_
  refine e_next rfl (side_nil (by kernel_rfl)) ?_
  refine e_done ?_
  refine post_next ?_
  refine code_seq ?_
  refine code_region ?_
  rw [e2]
  refine op_v (v_move rfl) rfl ?_
  refine op_v (v_move rfl) rfl ?_
  refine op_v (v_len Tryz.underlying23 rfl) rfl ?_
  refine op_v (v_move rfl) rfl ?_
  refine op_v (v_slice2 Tryz.underlying23 sz59 rfl rfl rfl (by omega) (by omega)) rfl ?_
  refine o_clear Tryz.underlying23 (by kernel_rfl) (z := .agg #[.bool false, .int .i64 0, .slice none 0 0, .int .i64 0, .slice none 0 0]) (by rfl) (by rfl) rfl Has.here (by omega) ?_
  refine ops_nil ?_
  refine post_next ?_
  refine code_seq ?_
  refine code_region ?_
  refine op_v (v_move rfl) rfl ?_
  refine op_v (v_assign rfl) rfl ?_
  refine ops_nil ?_
  refine post_next ?_
  refine code_ret ?_
  refine post_ret (rs := [.tmp 6]) rfl (List.Perm.refl _) (.cons (.tmp rfl) .nil) (List.Sublist.refl _) ?_
  exact ⟨rfl, rfl⟩
theorem RowE.del {n : Nat} {α : Type} {E : Elt n α} {I : Imm} {xs : List Value} {al : List α} {i : Nat} (h : RowE E I xs al) (hi : i < al.length) : RowE E I (xs.take (i * n) ++ (xs.drop ((i + 1) * n)).take ((al.length - (i + 1)) * n)) (al.eraseIdx i) := by
  rw [List.eraseIdx_eq_take_drop_succ]
  refine (h.take i (by omega)).app ?_
  have h2 := h.drop (i + 1) (by omega)
  rw [List.take_of_length_le (by rw [h2.length, List.length_drop]; exact Nat.le_refl _)]
  exact h2
theorem rest1C_does {I : Imm} {b b2 : Nat} {x y : Li} {ux uy : List Value} (hx : LitE.R I x ux) (hy : LitE.R I y uy) (h1 : x.l.size ≤ 1000000000) (h2 : x.r.size ≤ 1000000000) (h3 : y.l.size ≤ 1000000000) (h4 : y.r.size ≤ 1000000000) :
    Does Tryz.prog 81 [.agg uy.toArray, .pointer (some ⟨b, 0, none⟩), .pointer (some ⟨b2, 0, none⟩)] I [.box b 64 [.func (.func 40) #[] #[]], .box b2 59 ux] (fun v _ δ' => v = .bool (sameL x y) ∧ δ' = [.box b 64 [.func (.func 40) #[] #[]], .box b2 59 ux]) := by
  have hx0 := lit_row hx
  have hy0 := lit_row hy
  obtain ⟨la, lc, ra, rc, rfl, _, _⟩ := hx
  obtain ⟨ma, mc, na, nc, rfl, _, _⟩ := hy
  refine Does.intro Tryz.func81 rfl Tryz.ntmps81 rfl fun w0 => ?_
  refine code_seq ?_
  refine code_region ?_
  refine o_box rfl rfl rfl (fun b3 => ?_)
  refine op_v (v_assign rfl) rfl ?_
  refine ops_nil ?_
  refine post_next ?_
  refine code_seq ?_
  refine code_region ?_
  refine op_v (v_loadA ty64 rfl rfl) rfl ?_
  refine op_v (v_loadA ty59 rfl rfl) rfl ?_
  refine op_v (v_loadA ty59 rfl rfl) rfl ?_
  refine op_fcall rfl rfl rfl ((Does.toF (args := [_, _]) pl40 (LSame_does hx0 hy0 h1 h2 h3 h4))) Parts.none ?_
  rintro v8 I8 _ hI8 ⟨rfl, rfl⟩
  refine op_v (v_assign rfl) rfl ?_
  refine ops_nil ?_
  refine post_next ?_
  refine code_ret ?_
  refine post_ret (rs := [.tmp 4]) rfl (List.Perm.refl _) (.cons (.tmp rfl) .nil) (List.sublist_cons_self _ _) ?_
  exact ⟨rfl, rfl⟩
theorem canL_mem {x : Li} {l : List Li} : canL x ∈ l.map canL ↔ l.any (fun m => sameL x m) = true := by
  rw [List.mem_map, List.any_eq_true]
  constructor
  · rintro ⟨m, hm, e⟩; exact ⟨m, hm, canL_eq.1 e.symm⟩
  · rintro ⟨m, hm, e⟩; exact ⟨m, hm, (canL_eq.2 e).symm⟩
theorem restC_does {I : Imm} {va vb : Value} {a b : List Li} (ha : RepC I va a) (hb : RepC I vb b) (hsa : SmC a) (hsb : SmC b) (hla : a.length ≤ 1000000) (hlb : b.length ≤ 1000000) :
    Does Tryz.prog 39 [va, vb, .func (.func 40) #[] #[]] I [] (fun v I' δ' => (∃ O, RepC I' v O ∧ O.map canL = rsX (a.map canL) (b.map canL) ∧ (∀ x ∈ O, x ∈ a) ∧ O.length ≤ a.length) ∧ δ' = []) := by
  obtain ⟨ad, ac, xa, rfl, hca, hba, hcella, hrowa⟩ := ha
  refine Does.intro Tryz.func39 rfl Tryz.ntmps39 rfl fun w0 => ?_
  refine code_seq ?_
  refine code_region ?_
  refine o_box rfl rfl rfl (fun b5 => ?_)
  refine op_v (v_assign rfl) rfl ?_
  refine ops_nil ?_
  refine post_next ?_
  refine code_seq ?_
  refine code_region ?_
  refine op_v (v_move rfl) rfl ?_
  refine op_call pl80 rfl rfl ((CloneC_does hb)) Parts.none ?_
  rintro v13 I13 _ hI13 ⟨la, lc, xb, rfl, hrowb, rfl⟩
  refine op_v (v_assign rfl) rfl ?_
  refine ops_nil ?_
  refine post_next ?_
  refine code_seq ?_
  refine code_region ?_
  refine op_v (v_assign rfl) rfl ?_
  refine ops_nil ?_
  refine post_next ?_
  refine code_seq ?_
  refine code_seq ?_
  refine code_region ?_
  refine op_v (v_move rfl) rfl ?_
  refine op_v (v_len Tryz.underlying23 rfl) rfl ?_
  refine op_v (v_move rfl) rfl ?_
  refine ops_nil ?_
  refine post_next ?_
  refine code_block ?_
  refine CodeJ.view (View.nilRow 59 5) ?_
  refine code_loop (fun m σ' I' δ' => ∃ (k : Nat) (L O : List Li) (A B : Option Addr) (c e : Nat) (xs ys : List Value), m = a.length - k ∧ k ≤ a.length ∧ σ' = [(5, .pointer (some ⟨b5, 0, none⟩)), (7, .slice A L.length c), (8, .slice B O.length e), (14, .slice ad a.length ac), (15, .int .i64 a.length), (16, .int .i64 k)] ∧ I13.le I' ∧ δ' = [cRow B e O.length ys, cRow A c L.length xs, .box b5 64 [.func (.func 40) #[] #[]]] ∧ RowE LitE I' xs L ∧ RowE LitE I' ys O ∧ rsX (a.map canL) (b.map canL) = O.map canL ++ rsX ((a.drop k).map canL) (L.map canL) ∧ O.length ≤ k ∧ L.length ≤ b.length ∧ (∀ t ∈ L, t ∈ b) ∧ ∀ t ∈ O, t ∈ a) a.length [(5, .pointer (some ⟨b5, 0, none⟩)), (7, .slice la b.length lc), (8, .slice none 0 0), (14, .slice ad a.length ac), (15, .int .i64 a.length), (16, .int .i64 (0 : Nat))] ⟨0, b, [], la, none, lc, 0, _, [], rfl, Nat.zero_le _, rfl, Imm.le_refl _, rfl, hrowb, rfl, rfl, Nat.zero_le _, Nat.le_refl _, fun _ h => h, fun _ h => by cases h⟩ ⟨rfl, rfl, rfl, rfl, rfl, rfl, trivial⟩ ?_
  rintro m _ I0 _ ⟨k, L, O, A, B, c, e, xs, ys, rfl, hk, rfl, hI0, rfl, hx, hy, hst, hO, hL, hLb, hOa⟩
  have hle0 : I.le I0 := Imm.leA
  refine code_seq ?_
  refine code_region ?_
  refine op_v (v_cmp rfl rfl rfl) rfl ?_
  refine ops_nil ?_
  refine post_next ?_
  refine code_seq ?_
  refine code_cond rfl (fun hc0 => ?_) (fun hc0 => ?_)
  · have hlt : k < a.length := by simpa using hc0
    obtain ⟨vs, ⟨ka, kc, ma, mc, rfl, hl, hr⟩, hat⟩ := hrowa.cellsAt hcella hlt
    have hs1 := hat.isSome
    have hsk := hsa.at hlt
    rw [List.drop_eq_getElem_cons hlt, List.map_cons, rsX] at hst
    refine code_skip ?_
    refine post_next ?_
    refine code_seq ?_
    refine code_block ?_
    refine code_seq ?_
    refine code_region ?_
    refine op_v (v_indexA Tryz.underlying23 sz59 rfl rfl) rfl ?_
    refine op_v (v_loadI0 ty59 (hat.mono hle0) rfl rfl rfl) rfl ?_
    refine o_alloc z59 rfl rfl (fun b10 => ?_)
    refine o_store ty59 rfl rfl rfl rfl rfl (by repeat (first | exact Swap.here | apply Swap.there)) rfl ?_
    refine ops_nil ?_
    refine post_next ?_
    refine code_seq ?_
    refine code_region ?_
    refine op_v (v_move rfl) rfl ?_
    refine op_v (v_makeFunc rfl rfl) rfl ?_
    refine op_call pl73 rfl rfl ((IdxR_doesC (c := L) (p := fun u => sameL a[k] u) hx (by omega) (fun J y u hJ hu hy => FDoes.ofFunc (args := [_]) (caps := [_, _]) pl81 (rest1C_does (b := b5) (b2 := b10) (LitE.mono (Imm.le_trans hle0 hJ) ⟨ka, kc, ma, mc, rfl, hl, hr⟩) hu hsk.1 hsk.2 (hsb y (hLb y hy)).1 (hsb y (hLb y hy)).2)))) (Parts.three (Del.there (Del.there Del.here)) (Del.there (Del.there Del.here)) Del.here) ?_
    rintro v22 I22 _ hI22 ⟨⟨n22, rfl, hn22⟩, rfl⟩
    refine op_v (v_assign rfl) rfl ?_
    refine ops_nil ?_
    refine post_next ?_
    refine code_seq ?_
    refine code_seq ?_
    refine code_region ?_
    refine op_v (v_move rfl) rfl ?_
    rcases hn22 with ⟨rfl, hany⟩ | ⟨j, hj, rfl, hp, hno⟩
    · rw [if_neg (fun h => by rw [canL_mem.1 h] at hany; cases hany)] at hst
      refine op_v (v_cmptA rfl rfl rfl) rfl ?_
      refine ops_nil ?_
      refine post_next ?_
      refine code_cond_t rfl ?_
      refine code_seq ?_
      refine code_region ?_
      refine op_v (v_move rfl) rfl ?_
      refine op_v (v_loadA ty59 rfl rfl) rfl ?_
      refine o_buildSlice (xs := [(Go.Operand.tmp 26)]) Tryz.underlying23 bs59 rfl rfl rfl rfl rfl (fun b27 => ?_)
      refine o_append Tryz.underlying23 bs59 rfl rfl rfl (fun v' => by repeat (first | exact Swap.here | apply Swap.there)) (Src.ofRow (by repeat (first | exact Has.here | apply Has.there)) rfl) (by first | rfl | omega | simp) (by simp [cat, cellsL, Value.oneCell']) (by omega) (by omega) (fun a28 c28 => ?_)
      have hl2 : O.length + 1 = (O ++ [a[k]]).length := by simp
      refine op_v (v_assign rfl) rfl ?_
      refine ops_nil ?_
      refine post_next ?_
      refine code_exit ?_
      refine post_exit_then ?_
      refine post_exit ?_
      refine post_next ?_
      refine code_region ?_
      refine op_v (v_addb rfl rfl rfl (by omega)) rfl ?_
      refine op_v (v_move rfl) rfl ?_
      refine ops_nil ?_
      refine PostJ.view ((View.drop Del.here).trans ((View.drop (Del.there (Del.there Del.here))).trans (View.perm (List.perm_append_comm (l₁ := [_, _]))))) ?_
      refine post_again (a.length - (k + 1)) [(5, .pointer (some ⟨b5, 0, none⟩)), (7, .slice A L.length c), (8, .slice a28 (O.length + 1) c28), (14, .slice ad a.length ac), (15, .int .i64 a.length), (16, .int .i64 (k + 1 : Nat))] (by omega) ⟨k + 1, L, O ++ [a[k]], A, a28, c, c28, xs, ys ++ liC a[k] ka kc ma mc, rfl, hlt, by rw [hl2], Imm.leA, by simp only [cRow, ← hl2]; rfl, hx.mono Imm.leA, (hy.mono Imm.leA).app (RowE.single ⟨ka, kc, ma, mc, rfl, hl.mono Imm.leA, hr.mono Imm.leA⟩), by rw [hst]; simp, by rw [← hl2]; omega, hL, hLb, fun t ht => by rcases List.mem_append.1 ht with h | h; exact hOa t h; simp at h; subst h; exact List.getElem_mem hlt⟩ ⟨rfl, rfl, rfl, rfl, rfl, rfl, trivial⟩
    · rw [if_pos (canL_mem.2 (List.any_eq_true.2 ⟨L[j], List.getElem_mem hj, hp⟩))] at hst
      have hers : (L.map canL).erase (canL a[k]) = (L.eraseIdx j).map canL := by
        rw [← eraseIdx_first (l := L.map canL) (j := j) (by simpa using hj) (by simp only [List.getElem_map]; exact (canL_eq.2 hp).symm) (fun i hi hij => by
          simp only [List.getElem_map]; intro q
          have h1 := List.any_eq_false.1 hno (L[i]'(by simpa using hi)) (List.mem_take_iff_getElem.2 ⟨i, by omega, rfl⟩)
          exact h1 (canL_eq.1 q.symm)), eraseIdx_mapX]
      rw [hers] at hst
      have hlen : L.length - 1 = (L.eraseIdx j).length := by rw [List.length_eraseIdx]; simp [hj]
      refine op_v (v_cmpfA rfl rfl rfl) rfl ?_
      refine ops_nil ?_
      refine post_next ?_
      refine code_cond_f rfl ?_
      refine code_skip ?_
      refine post_next ?_
      refine code_region ?_
      refine op_v (v_move rfl) rfl ?_
      refine op_v (v_move rfl) rfl ?_
      refine op_v (v_move rfl) rfl ?_
      refine op_v (v_addb rfl rfl rfl (by omega)) rfl ?_
      refine op_call pl82 rfl rfl ((DeleteC_does hj (by omega) hx.one1)) (Parts.one Del.here) ?_
      rintro v33 I33 _ hI33 ⟨rfl, rfl⟩
      refine op_v (v_assign rfl) rfl ?_
      refine ops_nil ?_
      refine post_out ?_
      refine post_next ?_
      refine code_region ?_
      refine op_v (v_addb rfl rfl rfl (by omega)) rfl ?_
      refine op_v (v_move rfl) rfl ?_
      refine ops_nil ?_
      refine PostJ.view ((View.drop (Del.there (Del.there Del.here))).trans (View.perm (List.perm_append_comm (l₁ := [_, _])))) ?_
      refine post_again (a.length - (k + 1)) [(5, .pointer (some ⟨b5, 0, none⟩)), (7, .slice A (L.length - 1) c), (8, .slice B O.length e), (14, .slice ad a.length ac), (15, .int .i64 a.length), (16, .int .i64 (k + 1 : Nat))] (by omega) ⟨k + 1, L.eraseIdx j, O, A, B, c, e, _, ys, rfl, hlt, by rw [hlen], Imm.leA, by simp only [cRow, ← hlen]; rfl, (hx.mono Imm.leA).del hj, hy.mono Imm.leA, hst, by omega, by rw [← hlen]; omega, fun t ht => hLb t (List.mem_of_mem_eraseIdx ht), hOa⟩ ⟨rfl, rfl, rfl, rfl, rfl, rfl, trivial⟩
  · have hge : k = a.length := by simp at hc0; omega
    refine code_exit ?_
    refine post_exit_then ?_
    refine post_exit_then ?_
    refine post_exit ?_
    refine post_next ?_
    refine code_seq ?_
    refine code_region ?_
    refine OpsJ.freezeRow Del.here ?_
    rintro I35 A35 c35 hI35 hvr hcr hlr hcells35
    cases hvr
    rw [hge, List.drop_length] at hst
    refine op_v (v_move rfl) rfl ?_
    refine op_v (v_assign rfl) rfl ?_
    refine ops_nil ?_
    refine post_next ?_
    refine code_ret ?_
    refine post_ret (rs := [.tmp 6]) rfl (List.Perm.refl _) (.cons (.tmp rfl) .nil) (List.nil_sublist _) ?_
    exact ⟨⟨O, ⟨_, _, ys, rfl, hcr, by omega, hcells35, hy.mono hI35⟩, by rw [hst]; simp [rsX], hOa, by omega⟩, rfl⟩
abbrev LitLit (P : Program) (fv : Value) (I : Imm) (δm : List Ent) (a b : List Li) (q : Li → Li → Bool) : Prop := ∀ J x y ux uy, I.le J → LitE.R J x ux → LitE.R J y uy → x ∈ a → y ∈ b → FDoes P fv [.agg ux.toArray, .agg uy.toArray] J δm (fun v _ δ' => v = .bool (q x y) ∧ δ' = δm)
theorem over1C_does {I : Imm} {fv : Value} {b5 b8 : Nat} {δm : List Ent} {a b : List Li} {q : Li → Li → Bool} {x y : Li} {ux uy : List Value} (hm : LitLit Tryz.prog fv I δm a b q) (hx : LitE.R I x ux) (hy : LitE.R I y uy) (hxa : x ∈ a) (hyb : y ∈ b) :
    Does Tryz.prog 87 [.agg ux.toArray, .pointer (some ⟨b5, 0, none⟩), .pointer (some ⟨b8, 0, none⟩)] I (.box b8 59 uy :: .box b5 64 [fv] :: δm) (fun v _ δ' => v = .bool (q x y) ∧ δ' = .box b8 59 uy :: .box b5 64 [fv] :: δm) := by
  have hx0 := hx
  have hy0 := hy
  obtain ⟨la, lc, ra, rc, rfl, _, _⟩ := hx
  obtain ⟨ma, mc, na, nc, rfl, _, _⟩ := hy
  refine Does.intro Tryz.func87 rfl Tryz.ntmps87 rfl fun w0 => ?_
  refine code_seq ?_
  refine code_region ?_
  refine o_box rfl rfl rfl (fun b3 => ?_)
  refine op_v (v_assign rfl) rfl ?_
  refine ops_nil ?_
  refine post_next ?_
  refine code_seq ?_
  refine code_region ?_
  refine op_v (v_loadA ty64 rfl rfl) rfl ?_
  refine op_v (v_loadA ty59 rfl rfl) rfl ?_
  refine op_v (v_loadA ty59 rfl rfl) rfl ?_
  refine op_fcall rfl rfl rfl ((hm _ x y _ _ (Imm.le_refl _) hx0 hy0 hxa hyb)) (List.perm_append_comm (l₁ := [_, _, _])) ?_
  rintro v8 I8 _ hI8 ⟨rfl, rfl⟩
  refine OpsJ.view (View.perm (List.perm_append_comm (l₂ := [_, _, _]))) ?_
  refine op_v (v_assign rfl) rfl ?_
  refine ops_nil ?_
  refine post_next ?_
  refine code_ret ?_
  refine post_ret (rs := [.tmp 4]) rfl (List.Perm.refl _) (.cons (.tmp rfl) .nil) (List.sublist_cons_self _ _) ?_
  exact ⟨rfl, rfl⟩
theorem overC_does {I : Imm} {va vb fv : Value} {a b : List Li} {δm : List Ent} {q : Li → Li → Bool} (hfc : cellsL fv = [fv]) (ha : RepC I va a) (hb : RepC I vb b) (hm : LitLit Tryz.prog fv I δm a b q) :
    Does Tryz.prog 43 [va, vb, fv] I δm (fun v I' δ' => v = .bool ((b.all fun y => a.any fun x => q x y) && decide (0 < a.length)) ∧ δ' = δm) := by
  obtain ⟨a0, c0, hsh⟩ := RepE.shape ha
  subst hsh
  obtain ⟨bd, bc, xb, rfl, hcb, hbb, hcellb, hrowb⟩ := hb
  refine Does.intro Tryz.func43 rfl Tryz.ntmps43 rfl fun w0 => ?_
  refine code_seq ?_
  refine code_region ?_
  refine o_box rfl rfl rfl (fun b5 => ?_)
  refine op_v (v_assign rfl) rfl ?_
  refine ops_nil ?_
  refine post_next ?_
  refine code_seq ?_
  refine code_seq ?_
  refine code_region ?_
  refine op_v (v_move rfl) rfl ?_
  refine op_v (v_len Tryz.underlying23 rfl) rfl ?_
  refine op_v (v_move rfl) rfl ?_
  refine ops_nil ?_
  refine post_next ?_
  refine code_block ?_
  rw [hfc]
  refine code_loop (fun m σ' I' δ' => ∃ k : Nat, m = b.length - k ∧ k ≤ b.length ∧ σ' = [(0, .slice a0 a.length c0), (5, .pointer (some ⟨b5, 0, none⟩)), (9, .slice bd b.length bc), (10, .int .i64 b.length), (11, .int .i64 k)] ∧ I.le I' ∧ δ' = .box b5 64 [fv] :: δm ∧ (b.take k).all (fun y => a.any fun x => q x y) = true) b.length [(0, .slice a0 a.length c0), (5, .pointer (some ⟨b5, 0, none⟩)), (9, .slice bd b.length bc), (10, .int .i64 b.length), (11, .int .i64 (0 : Nat))] ⟨0, rfl, Nat.zero_le _, rfl, Imm.le_refl _, rfl, rfl⟩ ⟨rfl, rfl, rfl, rfl, rfl, trivial⟩ ?_
  rintro m _ I0 _ ⟨k, rfl, hk, rfl, hI0, rfl, hall⟩
  refine code_seq ?_
  refine code_region ?_
  refine op_v (v_cmp rfl rfl rfl) rfl ?_
  refine ops_nil ?_
  refine post_next ?_
  refine code_seq ?_
  refine code_cond rfl (fun hc0 => ?_) (fun hc0 => ?_)
  · have hlt : k < b.length := by simpa using hc0
    obtain ⟨vs, ⟨ka, kc, ma, mc, rfl, hl, hr⟩, hat⟩ := hrowb.cellsAt hcellb hlt
    have hs1 := hat.isSome
    refine code_skip ?_
    refine post_next ?_
    refine code_seq ?_
    refine code_block ?_
    refine code_seq ?_
    refine code_region ?_
    refine op_v (v_indexA Tryz.underlying23 sz59 rfl rfl) rfl ?_
    refine op_v (v_loadI0 ty59 (hat.mono hI0) rfl rfl rfl) rfl ?_
    refine o_alloc z59 rfl rfl (fun b8 => ?_)
    refine o_store ty59 rfl rfl rfl rfl rfl (by repeat (first | exact Swap.here | apply Swap.there)) rfl ?_
    refine ops_nil ?_
    refine post_next ?_
    refine code_seq ?_
    refine code_region ?_
    refine op_v (v_move rfl) rfl ?_
    refine op_v (v_makeFunc rfl rfl) rfl ?_
    refine op_call pl86 rfl rfl ((ContC_does (p := fun x => q x b[k]) (ha.mono hI0) (fun J x u hJ hu hxa => FDoes.ofFunc (args := [_]) (caps := [_, _]) pl87 (over1C_does (b5 := b5) (b8 := b8) (fun J2 x y ux uy h2 => hm J2 x y ux uy (Imm.le_trans hI0 (Imm.le_trans hJ h2))) hu (LitE.mono (Imm.le_trans hI0 hJ) ⟨ka, kc, ma, mc, rfl, hl, hr⟩) hxa (List.getElem_mem hlt))))) Parts.all ?_
    rintro v17 I17 _ hI17 ⟨rfl, rfl⟩
    rw [List.append_nil]
    refine op_v (v_not rfl) rfl ?_
    refine ops_nil ?_
    refine post_next ?_
    refine code_cond rfl (fun hc1 => ?_) (fun hc1 => ?_)
    · have hf : (a.any fun x => q x b[k]) = false := by simpa using hc1
      refine code_seq ?_
      refine code_region ?_
      refine op_v (v_assign rfl) rfl ?_
      refine ops_nil ?_
      refine post_next ?_
      refine code_ret ?_
      refine post_ret_block ?_
      refine post_ret_then ?_
      refine post_ret_then ?_
      refine post_ret_block ?_
      refine post_ret_then ?_
      refine post_ret (rs := [.tmp 6]) rfl (List.Perm.refl _) (.cons (.tmp rfl) .nil) (List.Sublist.cons _ (List.Sublist.cons _ (List.Sublist.refl _))) ?_
      exact ⟨by rw [show (b.all fun y => a.any fun x => q x y) = false from by cases h : (b.all fun y => a.any fun x => q x y); rfl; rw [List.all_eq_true.1 h _ (List.getElem_mem hlt)] at hf; cases hf]; rfl, rfl⟩
    · have ht : (a.any fun x => q x b[k]) = true := by simpa using hc1
      refine code_skip ?_
      refine post_out ?_
      refine post_next ?_
      refine code_region ?_
      refine op_v (v_addb rfl rfl rfl (by omega)) rfl ?_
      refine op_v (v_move rfl) rfl ?_
      refine ops_nil ?_
      refine PostJ.view (View.drop Del.here) ?_
      refine post_again (b.length - (k + 1)) [(0, .slice a0 a.length c0), (5, .pointer (some ⟨b5, 0, none⟩)), (9, .slice bd b.length bc), (10, .int .i64 b.length), (11, .int .i64 (k + 1 : Nat))] (by omega) ⟨k + 1, rfl, hlt, rfl, Imm.leA, rfl, by rw [List.take_succ_eq_append_getElem hlt, List.all_append, hall]; simp [ht]⟩ ⟨rfl, rfl, rfl, rfl, rfl, trivial⟩
  · have hge : k = b.length := by simp at hc0; omega
    subst hge
    rw [List.take_length] at hall
    refine code_exit ?_
    refine post_exit_then ?_
    refine post_exit_then ?_
    refine post_exit ?_
    refine post_next ?_
    refine code_seq ?_
    refine code_region ?_
    refine op_v (v_move rfl) rfl ?_
    refine op_v (v_len Tryz.underlying23 rfl) rfl ?_
    refine op_v (v_cmp (z := decide (0 < a.length)) rfl rfl (by simp [cmpI])) rfl ?_
    refine op_v (v_assign rfl) rfl ?_
    refine ops_nil ?_
    refine post_next ?_
    refine code_ret ?_
    refine post_ret (rs := [.tmp 6]) rfl (List.Perm.refl _) (.cons (.tmp rfl) .nil) (List.Sublist.cons _ (List.Sublist.refl _)) ?_
    exact ⟨by rw [hall]; rfl, rfl⟩
theorem Compare1_does {I : Imm} {b3 : Nat} {vg : Value} {gs : List Sy} {x y : Li} {ux uy : List Value} (hg : RepG I vg gs) (hx : LitE.R I x ux) (hy : LitE.R I y uy) (h1 : x.l.size ≤ 1000000000) (h2 : x.r.size ≤ 1000000000) (h3 : y.l.size ≤ 1000000000) (h4 : y.r.size ≤ 1000000000) (hgx : litG gs x = 0) (hgy : litG gs y = 0) :
    Does Tryz.prog 41 [.agg ux.toArray, .agg uy.toArray, .pointer (some ⟨b3, 0, none⟩)] I [.box b3 22 [vg]] (fun v _ δ' => v = .bool (gtL gs x y) ∧ δ' = [.box b3 22 [vg]]) := by
  have hx0 := lit_row hx
  have hy0 := lit_row hy
  have he : litE gs x y = 0 := by unfold litE; rw [if_neg (by omega)]; exact hgy
  obtain ⟨la, lc, ra, rc, rfl, _, _⟩ := hx
  obtain ⟨ma, mc, na, nc, rfl, _, _⟩ := hy
  refine Does.intro Tryz.func41 rfl Tryz.ntmps41 rfl fun w0 => ?_
  refine code_seq ?_
  refine code_region ?_
  refine o_box rfl rfl rfl (fun b3 => ?_)
  refine o_box rfl rfl rfl (fun b4 => ?_)
  refine op_v (v_assign rfl) rfl ?_
  refine ops_nil ?_
  refine post_next ?_
  refine code_seq ?_
  refine code_region ?_
  refine op_v (v_loadA ty22 rfl rfl) rfl ?_
  refine op_v (v_loadA ty59 rfl rfl) rfl ?_
  refine op_v (v_loadA ty59 rfl rfl) rfl ?_
  refine op_call pl42 rfl rfl ((LCompare_does hg hx0 hy0 h1 h2 h3 h4)) Parts.none ?_
  rintro v12 I12 _ hI12 ⟨rfl, rfl⟩
  rw [he, if_pos rfl]
  refine op_v (v_move rfl) rfl ?_
  refine op_v (v_extract rfl rfl) rfl ?_
  refine op_v (v_extract rfl rfl) rfl ?_
  refine op_v (v_assign rfl) rfl ?_
  refine op_v (v_assign rfl) rfl ?_
  refine ops_nil ?_
  refine post_next ?_
  refine code_seq ?_
  refine code_region ?_
  refine op_v (v_move rfl) rfl ?_
  refine op_v (v_cmptA rfl rfl rfl) rfl ?_
  refine op_v (v_move rfl) rfl ?_
  refine op_want rfl rfl ?_
  refine op_v (v_move rfl) rfl ?_
  refine op_want rfl rfl ?_
  refine op_v (v_cmp (z := gtL gs x y) rfl rfl rfl) rfl ?_
  refine op_v (v_pickt rfl rfl) rfl ?_
  refine op_v (v_assign rfl) rfl ?_
  refine ops_nil ?_
  refine post_next ?_
  refine code_ret ?_
  refine post_ret (rs := [.tmp 5]) rfl (List.Perm.refl _) (.cons (.tmp rfl) .nil) (List.Sublist.cons _ (List.Sublist.cons _ (List.Sublist.refl _))) ?_
  exact ⟨rfl, rfl⟩
def cmpE (gs : List Sy) (c d : List Li) : Int := if chkC gs c ≠ 0 then chkC gs c else chkC gs d
theorem chkC_ok {gs : List Sy} {c : List Li} (h : chkC gs c = 0) : chkG gs = 0 ∧ c.length ≤ 32 ∧ ∀ x ∈ c, litG gs x = 0 := by
  unfold chkC at h
  by_cases h1 : chkG gs ≠ 0
  · rw [if_pos h1] at h; exact absurd h h1
  · rw [if_neg h1] at h
    by_cases h2 : 32 < c.length
    · rw [if_pos h2] at h; cases h
    · rw [if_neg h2] at h
      exact ⟨Classical.not_not.1 h1, by omega, chkLs_ok.1 h⟩
theorem overC_X {gs : List Sy} (a b : List Li) : ((b.all fun y => a.any fun x => gtL gs x y) && decide (0 < a.length)) = overX (gtL gs) (a.map canL) (b.map canL) := by
  unfold overX
  rw [List.length_map, Bool.and_comm]
  congr 1
  rw [List.all_map]
  congr 1
  funext y
  simp only [Function.comp, List.any_map]
  congr 1
  funext x
  simp only [Function.comp, gtL_can]
theorem CCompare_does {I : Imm} {vg va vb : Value} {gs : List Sy} {c d : List Li} (hg : RepG I vg gs) (ha : RepC I va c) (hb : RepC I vb d) (hs : SmC c) (ht : SmC d) :
    Does Tryz.prog 16 [vg, va, vb] I [] (fun v I' δ' => v = .tuple #[.int .i64 (if cmpE gs c d = 0 then cmpC gs c d else 0), .int .i64 (cmpE gs c d)] ∧ δ' = []) := by
  obtain ⟨ga, gc, hsg⟩ := hg.shape
  subst hsg
  refine Does.intro Tryz.func16 rfl Tryz.ntmps16 rfl fun w0 => ?_
  refine code_seq ?_
  refine code_region ?_
  refine o_box rfl rfl rfl (fun b3 => ?_)
  refine op_v (v_assign rfl) rfl ?_
  refine op_v (v_assign rfl) rfl ?_
  refine ops_nil ?_
  refine post_next ?_
  refine code_seq ?_
  refine code_seq ?_
  refine code_region ?_
  refine op_v (v_loadA ty22 rfl rfl) rfl ?_
  refine op_v (v_move rfl) rfl ?_
  refine op_call pl25 rfl rfl ((CCheck_does hg ha hs)) Parts.none ?_
  rintro v15 I15 _ hI15 ⟨rfl, rfl⟩
  refine op_v (v_assign rfl) rfl ?_
  refine ops_nil ?_
  refine post_next ?_
  refine code_seq ?_
  refine code_region ?_
  refine op_v (v_move rfl) rfl ?_
  by_cases h17 : chkC gs c ≠ 0
  · have he : cmpE gs c d = chkC gs c := if_pos h17
    refine op_v (v_cmptA rfl rfl rfl) rfl ?_
    refine ops_nil ?_
    refine post_next ?_
    refine code_cond_t rfl ?_
    refine code_seq ?_
    refine code_region ?_
    refine op_v (v_move rfl) rfl ?_
    refine op_v (v_assign rfl) rfl ?_
    refine op_v (v_assign rfl) rfl ?_
    refine ops_nil ?_
    refine post_next ?_
    refine code_ret ?_
    refine post_ret_then ?_
    refine post_ret (rs := [.tmp 6, .tmp 7]) rfl (List.Perm.refl _) (.cons (.tmp rfl) (.cons (.tmp rfl) .nil)) (List.nil_sublist _) ?_
    exact ⟨by rw [he, if_neg h17]; rfl, rfl⟩
  · have he : cmpE gs c d = chkC gs d := if_neg h17
    refine op_v (v_cmpfA rfl rfl rfl) rfl ?_
    refine ops_nil ?_
    refine post_next ?_
    refine code_cond_f rfl ?_
    refine code_skip ?_
    refine post_next ?_
    refine code_seq ?_
    refine code_seq ?_
    refine code_region ?_
    refine op_v (v_loadA ty22 rfl rfl) rfl ?_
    refine op_v (v_move rfl) rfl ?_
    refine op_call pl25 rfl rfl ((CCheck_does (hg.mono Imm.leA) (hb.mono Imm.leA) ht)) Parts.none ?_
    rintro v21 I21 _ hI21 ⟨rfl, rfl⟩
    refine op_v (v_assign rfl) rfl ?_
    refine ops_nil ?_
    refine post_next ?_
    refine code_seq ?_
    refine code_region ?_
    refine op_v (v_move rfl) rfl ?_
    by_cases h23 : chkC gs d ≠ 0
    · refine op_v (v_cmptA rfl rfl rfl) rfl ?_
      refine ops_nil ?_
      refine post_next ?_
      refine code_cond_t rfl ?_
      refine code_seq ?_
      refine code_region ?_
      refine op_v (v_move rfl) rfl ?_
      refine op_v (v_assign rfl) rfl ?_
      refine op_v (v_assign rfl) rfl ?_
      refine ops_nil ?_
      refine post_next ?_
      refine code_ret ?_
      refine post_ret_then ?_
      refine post_ret (rs := [.tmp 6, .tmp 7]) rfl (List.Perm.refl _) (.cons (.tmp rfl) (.cons (.tmp rfl) .nil)) (List.nil_sublist _) ?_
      exact ⟨by rw [he, if_neg h23]; rfl, rfl⟩
    · have h17' : chkC gs c = 0 := Classical.not_not.1 h17
      have h23' : chkC gs d = 0 := Classical.not_not.1 h23
      obtain ⟨_, hlc, hgc⟩ := chkC_ok h17'
      obtain ⟨_, hld, hgd⟩ := chkC_ok h23'
      have he0 : cmpE gs c d = 0 := he.trans h23'
      refine op_v (v_cmpfA rfl rfl rfl) rfl ?_
      refine ops_nil ?_
      refine post_next ?_
      refine code_cond_f rfl ?_
      refine code_skip ?_
      refine post_next ?_
      refine code_seq ?_
      refine code_region ?_
      refine op_v (v_move rfl) rfl ?_
      refine op_v (v_move rfl) rfl ?_
      refine op_call pl39 rfl rfl ((restC_does (ha.mono Imm.leA) (hb.mono Imm.leA) hs ht (by omega) (by omega))) Parts.none ?_
      rintro v27 I27 _ hI27 ⟨⟨X, hX, hXm, hXs, hXl⟩, rfl⟩
      refine op_v (v_move rfl) rfl ?_
      refine op_v (v_move rfl) rfl ?_
      refine op_call pl39 rfl rfl ((restC_does (hb.mono Imm.leA) (ha.mono Imm.leA) ht hs (by omega) (by omega))) Parts.none ?_
      rintro v30 I30 _ hI30 ⟨⟨Y, hY, hYm, hYs, hYl⟩, rfl⟩
      obtain ⟨xa, xc, rfl⟩ := RepE.shape hX
      obtain ⟨ya, yc, rfl⟩ := RepE.shape hY
      have hXn : X.length = (rsX (c.map canL) (d.map canL)).length := by rw [← hXm, List.length_map]
      have hYn : Y.length = (rsX (d.map canL) (c.map canL)).length := by rw [← hYm, List.length_map]
      refine op_v (v_assign rfl) rfl ?_
      refine op_v (v_assign rfl) rfl ?_
      refine ops_nil ?_
      refine post_next ?_
      refine code_seq ?_
      refine code_region ?_
      refine op_v (v_makeFunc rfl rfl) rfl ?_
      refine op_v (v_assign rfl) rfl ?_
      refine ops_nil ?_
      refine post_next ?_
      refine code_seq ?_
      refine code_block ?_
      refine code_seq ?_
      refine code_region ?_
      refine op_v (v_move rfl) rfl ?_
      refine op_v (v_len Tryz.underlying23 rfl) rfl ?_
      refine op_v (v_move rfl) rfl ?_
      refine op_v (v_len Tryz.underlying23 rfl) rfl ?_
      refine op_v (v_addb rfl rfl rfl (by omega)) rfl ?_
      by_cases h38 : X.length + Y.length = 0
      · refine op_v (v_cmptA rfl rfl rfl) rfl ?_
        refine op_v (v_assign rfl) rfl ?_
        refine ops_nil ?_
        refine post_next ?_
        refine code_cond_t rfl ?_
        refine code_seq ?_
        refine code_region ?_
        refine op_v (v_assign rfl) rfl ?_
        refine op_v (v_assign rfl) rfl ?_
        refine ops_nil ?_
        refine post_next ?_
        refine code_ret ?_
        refine post_ret_block ?_
        refine post_ret_then ?_
        refine post_ret (rs := [.tmp 6, .tmp 7]) rfl (List.Perm.refl _) (.cons (.tmp rfl) (.cons (.tmp rfl) .nil)) (List.nil_sublist _) ?_
        exact ⟨by rw [he0, if_pos rfl]; unfold cmpC mulX; rw [if_pos (by omega)]; rfl, rfl⟩
      · refine op_v (v_cmpfA rfl rfl rfl) rfl ?_
        refine op_v (v_assign rfl) rfl ?_
        refine ops_nil ?_
        refine post_next ?_
        refine code_cond_f rfl ?_
        refine code_seq ?_
        refine code_region ?_
        refine op_v (v_move rfl) rfl ?_
        refine op_v (v_move rfl) rfl ?_
        refine op_v (v_move rfl) rfl ?_
        refine op_call pl43 rfl rfl ((overC_does (q := gtL gs) (δm := [.box b3 22 [.slice ga gs.length gc]]) rfl (hX.mono Imm.leA) (hY.mono Imm.leA) (fun J x y ux uy hJ hux huy hx hy => FDoes.ofFunc (args := [_, _]) (caps := [_]) pl41 (Compare1_does (b3 := b3) (hg.mono (Imm.le_trans (show I.le I30 from Imm.leA) hJ)) hux huy (hs x (hXs x hx)).1 (hs x (hXs x hx)).2 (ht y (hYs y hy)).1 (ht y (hYs y hy)).2 (hgc x (hXs x hx)) (hgd y (hYs y hy)))))) Parts.all ?_
        rintro v43 I43 _ hI43 ⟨rfl, rfl⟩
        rw [List.append_nil, overC_X, hXm, hYm]
        refine op_v (v_assign rfl) rfl ?_
        refine ops_nil ?_
        refine post_next ?_
        refine code_cond rfl (fun hc3 => ?_) (fun hc3 => ?_)
        · refine code_seq ?_
          refine code_region ?_
          refine op_v (v_assign rfl) rfl ?_
          refine op_v (v_assign rfl) rfl ?_
          refine ops_nil ?_
          refine post_next ?_
          refine code_ret ?_
          refine post_ret_block ?_
          refine post_ret_then ?_
          refine post_ret (rs := [.tmp 6, .tmp 7]) rfl (List.Perm.refl _) (.cons (.tmp rfl) (.cons (.tmp rfl) .nil)) (List.nil_sublist _) ?_
          exact ⟨by rw [he0, if_pos rfl]; unfold cmpC mulX; rw [if_neg (by omega), if_pos hc3]; rfl, rfl⟩
        · refine code_seq ?_
          refine code_region ?_
          refine op_v (v_move rfl) rfl ?_
          refine op_v (v_move rfl) rfl ?_
          refine op_v (v_move rfl) rfl ?_
          refine op_call pl43 rfl rfl ((overC_does (q := gtL gs) (δm := [.box b3 22 [.slice ga gs.length gc]]) rfl (hY.mono Imm.leA) (hX.mono Imm.leA) (fun J x y ux uy hJ hux huy hx hy => FDoes.ofFunc (args := [_, _]) (caps := [_]) pl41 (Compare1_does (b3 := b3) (hg.mono (Imm.le_trans (show I.le I43 from Imm.leA) hJ)) hux huy (ht x (hYs x hx)).1 (ht x (hYs x hx)).2 (hs y (hXs y hy)).1 (hs y (hXs y hy)).2 (hgd x (hYs x hx)) (hgc y (hXs y hy)))))) Parts.all ?_
          rintro v48 I48 _ hI48 ⟨rfl, rfl⟩
          rw [List.append_nil, overC_X, hXm, hYm]
          refine op_v (v_assign rfl) rfl ?_
          refine ops_nil ?_
          refine post_next ?_
          refine code_cond rfl (fun hc4 => ?_) (fun hc4 => ?_)
          · refine code_seq ?_
            refine code_region ?_
            refine op_v (v_assign rfl) rfl ?_
            refine op_v (v_assign rfl) rfl ?_
            refine ops_nil ?_
            refine post_next ?_
            refine code_ret ?_
            refine post_ret_block ?_
            refine post_ret_then ?_
            refine post_ret (rs := [.tmp 6, .tmp 7]) rfl (List.Perm.refl _) (.cons (.tmp rfl) (.cons (.tmp rfl) .nil)) (List.nil_sublist _) ?_
            exact ⟨by rw [he0, if_pos rfl]; unfold cmpC mulX; rw [if_neg (by omega), if_neg (by rw [hc3]; simp), if_pos hc4]; rfl, rfl⟩
          · refine code_skip ?_
            refine post_out ?_
            refine post_next ?_
            refine code_seq ?_
            refine code_region ?_
            refine op_v (v_assign rfl) rfl ?_
            refine op_v (v_assign rfl) rfl ?_
            refine ops_nil ?_
            refine post_next ?_
            refine code_ret ?_
            refine post_ret (rs := [.tmp 6, .tmp 7]) rfl (List.Perm.refl _) (.cons (.tmp rfl) (.cons (.tmp rfl) .nil)) (List.nil_sublist _) ?_
            exact ⟨by rw [he0, if_pos rfl]; unfold cmpC mulX; rw [if_neg (by omega), if_neg (by rw [hc3]; simp), if_neg (by rw [hc4]; simp)]; rfl, rfl⟩
end Go.Proofs.YtdbadicpbmndbaaGreat
/- Walks: the statement that it is an order. -/
set_option linter.unusedVariables false
set_option linter.unusedSimpArgs false
/- short -/
namespace Go.Proofs.YtdbadicpbmndbaaGreat
open Go Lg

end Go.Proofs.YtdbadicpbmndbaaGreat
/- Walks: the document's answer on variables, one by one; clauses without variables: the statement. -/
set_option linter.unusedVariables false
set_option linter.unusedSimpArgs false
set_option linter.unnecessarySimpa false
/- short -/
namespace Go.Proofs.YtdbadicpbmndbaaGreat
open Go Lg

mutual
def uvT : T → List Int
  | .mk h ts => uvL (if h < 0 then [-1 - h] else []) ts
def uvL : List Int → List T → List Int
  | acc, [] => acc
  | acc, t :: r => uvL (uniL acc (uvT t)) r
end
theorem uvL_app : ∀ (a b : List T) (acc : List Int), uvL acc (a ++ b) = uvL (uvL acc a) b
  | [], b, acc => by simp [uvL]
  | t :: r, b, acc => by simp only [List.cons_append, uvL, uvL_app r b]
theorem uvL_take (acc : List Int) (ts : List T) (k : Nat) (h : k < ts.length) : uvL acc (ts.take (k + 1)) = uniL (uvL acc (ts.take k)) (uvT ts[k]) := by
  rw [List.take_succ_eq_append_getElem h, uvL_app]; simp [uvL]
mutual
theorem uvT_len : ∀ t : T, (uvT t).length ≤ t.size
  | .mk h ts => by
    have h1 := uvL_len ts (if h < 0 then [-1 - h] else [])
    have h2 : (if h < 0 then [-1 - h] else []).length ≤ 1 := by split <;> simp
    simp only [uvT, T.size]; omega
theorem uvL_len : ∀ (ts : List T) (acc : List Int), (uvL acc ts).length ≤ acc.length + sizeL ts
  | [], acc => by simp [uvL, sizeL]
  | t :: r, acc => by
    have h1 := uvT_len t
    have h2 := uniL_len acc (uvT t)
    have h3 := uvL_len r (uniL acc (uvT t))
    simp only [uvL, sizeL]; omega
end
theorem RVars2_does : ∀ (n : Nat) (t : T), t.size ≤ n → t.size ≤ 100000 → ∀ (I : Imm) (v : Value), RepT I v t →
    Does Tryz.prog 134 [v] I [] (fun v I' δ' => RInts I' v (uvT t) ∧ δ' = []) := by
  intro n
  induction n with
  | zero => intro t ht; have := t.size_pos; omega
  | succ n ih =>
    intro t ht hbig I v hv
    obtain ⟨h, ts⟩ := t
    obtain ⟨ad, c, ss, rfl, hr, hc, hb, hat, hsub⟩ := hv.elim
    have hsz : (T.mk h ts).size = 1 + sizeL ts := by simp [T.size]
    have hr0 := hr
    unfold InR at hr0
    refine Does.intro Tryz.func134 rfl Tryz.ntmps134 rfl fun w0 => ?_
    refine code_seq ?_
    refine code_region ?_
    refine o_box rfl rfl rfl (fun b1 => ?_)
    refine op_v (v_assign rfl) rfl ?_
    refine ops_nil ?_
    refine post_next ?_
    refine code_seq ?_
    refine code_region ?_
    refine op_v (v_assign rfl) rfl ?_
    refine ops_nil ?_
    refine post_next ?_
    refine code_seq_meet (fun σ' I' δ' => ∃ (ar : Option Addr) (cr : Nat) (ini : List Int), σ' = [(1, .pointer (some ⟨b1, 0, none⟩)), (3, .slice ar ini.length cr)] ∧ I = I' ∧ δ' = [iRow ar cr ini, .box b1 48 [.int .i64 h, .slice ad ts.length c]] ∧ uvT (.mk h ts) = uvL ini ts ∧ ini.length ≤ 1 ∧ ∀ x ∈ ini, InR x) ?_ ?_
    · refine code_seq ?_
      refine code_region ?_
      refine op_v (v_fieldB 0 Tryz.underlying48 rfl rfl fz3 rfl) rfl ?_
      refine op_v (v_loadA ty3 rfl rfl) rfl ?_
      refine op_v (v_cmp rfl rfl rfl) rfl ?_
      refine ops_nil ?_
      refine post_next ?_
      refine code_cond rfl (fun hc0 => ?_) (fun hc0 => ?_)
      · have h9 : h < 0 := by simpa using hc0
        refine code_region ?_
        refine op_v (v_move rfl) rfl ?_
        refine op_v (v_fieldB 0 Tryz.underlying48 rfl rfl fz3 rfl) rfl ?_
        refine op_v (v_loadA ty3 rfl rfl) rfl ?_
        refine op_v (v_subb rfl rfl rfl (by omega)) rfl ?_
        refine o_buildSlice (xs := [(Go.Operand.tmp 13)]) Tryz.underlying30 bs3 rfl rfl rfl rfl rfl (fun b14 => ?_)
        refine OpsJ.view (View.nilRow 3 1) ?_
        refine o_append Tryz.underlying30 bs3 rfl rfl rfl (fun v' => by repeat (first | exact Swap.here | apply Swap.there)) (Src.ofRow (by repeat (first | exact Has.here | apply Has.there)) rfl) (by first | rfl | omega | simp) (by simp [cat, cellsL, Value.oneCell']) (by omega) (by omega) (fun a15 c15 => ?_)
        refine op_v (v_assign rfl) rfl ?_
        refine ops_nil ?_
        refine PostJ.view (View.drop (Del.there Del.here)) ?_
        refine post_meet _ ⟨a15, c15, [-1 - h], rfl, rfl, by simp [iRow, cat, cellsL], by simp only [uvT]; rw [if_pos h9], by simp, fun x hx => by simp at hx; subst hx; unfold InR; omega⟩ ⟨rfl, rfl, trivial⟩
      · have h9 : ¬ h < 0 := by simpa using hc0
        refine code_skip ?_
        refine PostJ.view (View.nilRow 3 1) ?_
        refine post_meet _ ⟨none, 0, [], rfl, rfl, rfl, by simp only [uvT]; rw [if_neg h9], by simp, fun x hx => by cases hx⟩ ⟨rfl, rfl, trivial⟩
    · rintro _ _ _ ⟨ar, cr, ini, rfl, rfl, rfl, hue, hil, hin0⟩
      refine code_seq ?_
      refine code_seq ?_
      refine code_region ?_
      refine op_v (v_assign rfl) rfl ?_
      refine ops_nil ?_
      refine post_next ?_
      refine code_block ?_
      refine code_loop (fun m σ' I' δ' => ∃ (k : Nat) (ar : Option Addr) (cr : Nat), m = ts.length - k ∧ k ≤ ts.length ∧ σ' = [(1, .pointer (some ⟨b1, 0, none⟩)), (3, .slice ar (uvL ini (ts.take k)).length cr), (4, .int .i64 k)] ∧ I.le I' ∧ δ' = [iRow ar cr (uvL ini (ts.take k)), .box b1 48 [.int .i64 h, .slice ad ts.length c]] ∧ ∀ x ∈ uvL ini (ts.take k), InR x) ts.length [(1, .pointer (some ⟨b1, 0, none⟩)), (3, .slice ar ini.length cr), (4, .int .i64 (0 : Nat))] ⟨0, ar, cr, rfl, Nat.zero_le _, rfl, Imm.le_refl _, rfl, hin0⟩ ⟨rfl, rfl, rfl, trivial⟩ ?_
      rintro m _ I0 _ ⟨k, ar, cr, rfl, hk, rfl, hI0, rfl, hin⟩
      have hgl := uvL_len (ts.take k) ini
      refine code_seq ?_
      refine code_seq ?_
      refine code_region ?_
      refine op_v (v_move rfl) rfl ?_
      refine op_v (v_fieldB 1 Tryz.underlying48 rfl rfl fz46 rfl) rfl ?_
      refine op_v (v_loadA ty46 rfl rfl) rfl ?_
      refine op_v (v_len Tryz.underlying46 rfl) rfl ?_
      refine op_v (v_cmp rfl rfl rfl) rfl ?_
      refine ops_nil ?_
      refine post_next ?_
      refine code_cond rfl (fun hc1 => ?_) (fun hc1 => ?_)
      · have hlt : k < ts.length := by simpa using hc1
        have hs1 := (hat k hlt).isSome
        have hm := sizeL_mem ts k hlt
        have hst := sizeL_take ts k hlt
        have hsd : sizeL (ts.take (k + 1)) + sizeL (ts.drop (k + 1)) = sizeL ts := by rw [← sizeL_app, List.take_append_drop]
        have hvt := uvL_take ini ts k hlt
        have hpl := uvT_len ts[k]
        refine code_skip ?_
        refine post_next ?_
        refine code_seq ?_
        refine code_block ?_
        refine code_seq ?_
        refine code_region ?_
        refine op_v (v_fieldB 1 Tryz.underlying48 rfl rfl fz46 rfl) rfl ?_
        refine op_v (v_loadA ty46 rfl rfl) rfl ?_
        refine op_v (v_move rfl) rfl ?_
        refine op_v (v_indexA Tryz.underlying46 sz48 rfl rfl) rfl ?_
        refine op_v (v_loadI0 ty48 ((hat k hlt).mono hI0) rfl rfl rfl) rfl ?_
        refine op_call pl134 rfl rfl ((ih ts[k] (by omega) (by omega) _ _ ((hsub k hlt).mono hI0))) Parts.none ?_
        rintro v28 I28 _ hI28 ⟨hv28, rfl⟩
        have hn28 := hv28.len
        obtain ⟨va, vc, rfl⟩ := hv28.shape
        refine op_v (v_assign rfl) rfl ?_
        refine ops_nil ?_
        refine post_next ?_
        refine code_seq ?_
        refine code_region ?_
        refine op_v (v_assign rfl) rfl ?_
        refine ops_nil ?_
        refine post_next ?_
        refine code_block ?_
        refine code_loop (fun m σ' I' δ' => ∃ (j : Nat) (ar : Option Addr) (cr : Nat), m = (uvT ts[k]).length - j ∧ j ≤ (uvT ts[k]).length ∧ σ' = [(1, .pointer (some ⟨b1, 0, none⟩)), (3, .slice ar (uniL (uvL ini (ts.take k)) ((uvT ts[k]).take j)).length cr), (4, .int .i64 k), (5, .slice va (uvT ts[k]).length vc), (6, .int .i64 j)] ∧ I28.le I' ∧ δ' = [iRow ar cr (uniL (uvL ini (ts.take k)) ((uvT ts[k]).take j)), .box b1 48 [.int .i64 h, .slice ad ts.length c]] ∧ ∀ x ∈ uniL (uvL ini (ts.take k)) ((uvT ts[k]).take j), InR x) (uvT ts[k]).length [(1, .pointer (some ⟨b1, 0, none⟩)), (3, .slice ar (uvL ini (ts.take k)).length cr), (4, .int .i64 k), (5, .slice va (uvT ts[k]).length vc), (6, .int .i64 (0 : Nat))] ⟨0, ar, cr, rfl, Nat.zero_le _, rfl, Imm.le_refl _, rfl, hin⟩ ⟨rfl, rfl, rfl, rfl, rfl, trivial⟩ ?_
        rintro m _ I1 _ ⟨j, ar, cr, rfl, hj, rfl, hI1, rfl, hin2⟩
        have hul := uniL_len (uvL ini (ts.take k)) ((uvT ts[k]).take j)
        rw [List.length_take] at hul
        refine code_seq ?_
        refine code_seq ?_
        refine code_region ?_
        refine op_v (v_move rfl) rfl ?_
        refine op_v (v_move rfl) rfl ?_
        refine op_v (v_len Tryz.underlying30 rfl) rfl ?_
        refine op_v (v_cmp rfl rfl rfl) rfl ?_
        refine ops_nil ?_
        refine post_next ?_
        refine code_cond rfl (fun hc2 => ?_) (fun hc2 => ?_)
        · have hjl : j < (uvT ts[k]).length := by simpa using hc2
          have hatj := hv28.atI j hjl
          have hs2 := hatj.isSome
          have hut := uniL_take (uvL ini (ts.take k)) (uvT ts[k]) j hjl
          have hinj := hn28.2 _ (List.getElem_mem hjl)
          refine code_skip ?_
          refine post_next ?_
          refine code_seq ?_
          refine code_block ?_
          refine code_seq ?_
          refine code_region ?_
          refine op_v (v_move rfl) rfl ?_
          refine op_v (v_move rfl) rfl ?_
          refine op_v (v_indexA Tryz.underlying30 sz3 rfl rfl) rfl ?_
          refine op_v (v_loadI0 ty3 (hatj.mono hI1) rfl rfl rfl) rfl ?_
          refine op_v (v_move rfl) rfl ?_
          refine op_call pl36 rfl rfl ((In_does (by omega))) (Parts.one Del.here) ?_
          rintro v40 I40 _ hI40 ⟨rfl, rfl⟩
          by_cases hm41 : (uvT ts[k])[j] ∈ uniL (uvL ini (ts.take k)) ((uvT ts[k]).take j)
          · rw [decide_eq_true hm41]
            have hae : addN (uniL (uvL ini (ts.take k)) ((uvT ts[k]).take j)) (uvT ts[k])[j] = uniL (uvL ini (ts.take k)) ((uvT ts[k]).take j) := if_pos hm41
            rw [hae] at hut
            refine op_v (v_not rfl) rfl ?_
            refine ops_nil ?_
            refine post_next ?_
            refine code_cond_f rfl ?_
            refine code_skip ?_
            refine post_out ?_
            refine post_next ?_
            refine code_region ?_
            refine op_v (v_move rfl) rfl ?_
            refine op_v (v_addb rfl rfl rfl (by omega)) rfl ?_
            refine op_v (v_assign rfl) rfl ?_
            refine ops_nil ?_
            refine post_again ((uvT ts[k]).length - (j + 1)) [(1, .pointer (some ⟨b1, 0, none⟩)), (3, .slice ar (uniL (uvL ini (ts.take k)) ((uvT ts[k]).take j)).length cr), (4, .int .i64 k), (5, .slice va (uvT ts[k]).length vc), (6, .int .i64 (j + 1 : Nat))] (by omega) ⟨j + 1, ar, cr, rfl, hjl, by rw [hut], Imm.leA, by rw [hut]; rfl, by rw [hut]; exact hin2⟩ ⟨rfl, rfl, rfl, rfl, rfl, trivial⟩
          · rw [decide_eq_false hm41]
            have hae : addN (uniL (uvL ini (ts.take k)) ((uvT ts[k]).take j)) (uvT ts[k])[j] = uniL (uvL ini (ts.take k)) ((uvT ts[k]).take j) ++ [(uvT ts[k])[j]] := if_neg hm41
            rw [hae] at hut
            refine op_v (v_not rfl) rfl ?_
            refine ops_nil ?_
            refine post_next ?_
            refine code_cond_t rfl ?_
            refine code_region ?_
            refine op_v (v_move rfl) rfl ?_
            refine op_v (v_move rfl) rfl ?_
            refine op_v (v_move rfl) rfl ?_
            refine op_v (v_indexA Tryz.underlying30 sz3 rfl rfl) rfl ?_
            refine op_v (v_loadI0 ty3 (hatj.mono Imm.leA) rfl rfl rfl) rfl ?_
            refine o_buildSlice (xs := [(Go.Operand.tmp 46)]) Tryz.underlying30 bs3 rfl rfl rfl rfl rfl (fun b47 => ?_)
            refine o_append Tryz.underlying30 bs3 rfl rfl rfl (fun v' => by repeat (first | exact Swap.here | apply Swap.there)) (Src.ofRow (by repeat (first | exact Has.here | apply Has.there)) rfl) (by first | rfl | omega | simp) (by simp [cat, cellsL, Value.oneCell']) (by omega) (by omega) (fun a48 c48 => ?_)
            refine op_v (v_assign rfl) rfl ?_
            refine ops_nil ?_
            refine post_out ?_
            refine post_next ?_
            refine code_region ?_
            refine op_v (v_move rfl) rfl ?_
            refine op_v (v_addb rfl rfl rfl (by omega)) rfl ?_
            refine op_v (v_assign rfl) rfl ?_
            refine ops_nil ?_
            refine PostJ.view (View.drop Del.here) ?_
            refine post_again ((uvT ts[k]).length - (j + 1)) [(1, .pointer (some ⟨b1, 0, none⟩)), (3, .slice a48 ((uniL (uvL ini (ts.take k)) ((uvT ts[k]).take j)).length + 1) c48), (4, .int .i64 k), (5, .slice va (uvT ts[k]).length vc), (6, .int .i64 (j + 1 : Nat))] (by omega) ⟨j + 1, a48, c48, rfl, hjl, by rw [hut]; simp, Imm.leA, by rw [hut]; simp [iRow, cat, cellsL], by rw [hut]; intro x hx; rcases List.mem_append.1 hx with h | h; exact hin2 x h; simp at h; subst h; exact hinj⟩ ⟨rfl, rfl, rfl, rfl, rfl, trivial⟩
        · have hjg : j = (uvT ts[k]).length := by simp at hc2; omega
          subst hjg
          rw [List.take_length, ← hvt] at hin2
          rw [List.take_length, ← hvt]
          refine code_exit ?_
          refine post_exit_then ?_
          refine post_exit_then ?_
          refine post_exit ?_
          refine post_out ?_
          refine post_next ?_
          refine code_region ?_
          refine op_v (v_move rfl) rfl ?_
          refine op_v (v_addb rfl rfl rfl (by omega)) rfl ?_
          refine op_v (v_assign rfl) rfl ?_
          refine ops_nil ?_
          refine post_again (ts.length - (k + 1)) [(1, .pointer (some ⟨b1, 0, none⟩)), (3, .slice ar (uvL ini (ts.take (k + 1))).length cr), (4, .int .i64 (k + 1 : Nat))] (by omega) ⟨k + 1, ar, cr, rfl, hlt, rfl, Imm.leA, rfl, hin2⟩ ⟨rfl, rfl, rfl, trivial⟩
      · have hge : k = ts.length := by simp at hc1; omega
        subst hge
        rw [List.take_length] at hin hgl
        rw [List.take_length]
        refine code_exit ?_
        refine post_exit_then ?_
        refine post_exit_then ?_
        refine post_exit ?_
        refine post_next ?_
        refine code_seq ?_
        refine code_region ?_
        refine OpsJ.freezeRow Del.here ?_
        rintro I49 ar2 cr2 hI49 hvr hcr hlr hcells
        cases hvr
        refine op_v (v_move rfl) rfl ?_
        refine op_v (v_assign rfl) rfl ?_
        refine ops_nil ?_
        refine post_next ?_
        refine code_ret ?_
        refine post_ret (rs := [.tmp 2]) rfl (List.Perm.refl _) (.cons (.tmp rfl) .nil) (List.nil_sublist _) ?_
        exact ⟨by rw [hue]; exact RInts.of rfl hcr (by omega) hcells hin, rfl⟩
theorem RVars10_does {I : Imm} {v : Value} {c : List Li} (hv : RepC I v c) (hbig : sizeL (sidesL c) ≤ 10000) :
    Does Tryz.prog 57 [v] I [] (fun v I' δ' => RInts I' v (uvL [] (sidesL c)) ∧ δ' = []) := by
  have h5 : ∀ {I : Imm} {v : Value}, RepS I v (sidesL c) → Does Tryz.prog 101 [v] I [] (fun v I' δ' => RInts I' v (uvL [] (sidesL c)) ∧ δ' = []) := fun {I v} hs => by
    obtain ⟨sa, sc, rfl⟩ := hs.shape
    refine Does.intro Tryz.func101 rfl Tryz.ntmps101 rfl fun w0 => ?_
    refine code_seq ?_
    refine code_region ?_
    refine op_v (v_assign rfl) rfl ?_
    refine ops_nil ?_
    refine post_next ?_
    refine code_seq ?_
    refine code_region ?_
    refine op_v (v_move rfl) rfl ?_
    refine op_v (v_build bl48 rfl rfl) rfl ?_
    refine o_alloc z48 rfl rfl (fun b3 => ?_)
    refine o_store ty48 rfl rfl rfl rfl rfl (by repeat (first | exact Swap.here | apply Swap.there)) rfl ?_
    refine ops_nil ?_
    refine post_next ?_
    refine code_seq ?_
    refine code_region ?_
    refine op_v (v_loadA ty48 rfl rfl) rfl ?_
    refine op_call pl134 rfl rfl ((RVars2_does _ (.mk 0 (sidesL c)) (Nat.le_refl _) (by simp [T.size]; omega) _ _ (RepT.mk _ (.mk 0 (sidesL c)) (by unfold InR; simp [T.head]) hs))) Parts.none ?_
    rintro v7 I7 _ hI7 ⟨hv7, rfl⟩
    have e : uvT (.mk 0 (sidesL c)) = uvL [] (sidesL c) := by simp [uvT]
    rw [e] at hv7
    refine op_v (v_assign rfl) rfl ?_
    refine ops_nil ?_
    refine post_next ?_
    refine code_ret ?_
    refine post_ret (rs := [.tmp 2]) rfl (List.Perm.refl _) (.cons (.tmp rfl) .nil) (List.nil_sublist _) ?_
    exact ⟨hv7, rfl⟩
  refine Does.intro Tryz.func57 rfl Tryz.ntmps57 rfl fun w0 => ?_
  refine code_seq ?_
  refine code_region ?_
  refine op_v (v_assign rfl) rfl ?_
  refine ops_nil ?_
  refine post_next ?_
  refine code_seq ?_
  refine code_region ?_
  refine op_v (v_move rfl) rfl ?_
  refine op_call pl56 rfl rfl ((Terms_does hv)) Parts.none ?_
  rintro v4 I4 _ hI4 ⟨hs4, rfl⟩
  refine op_call pl101 rfl rfl ((h5 hs4)) Parts.none ?_
  rintro v5 I5 _ hI5 ⟨hv5, rfl⟩
  refine op_v (v_assign rfl) rfl ?_
  refine ops_nil ?_
  refine post_next ?_
  refine code_ret ?_
  refine post_ret (rs := [.tmp 2]) rfl (List.Perm.refl _) (.cons (.tmp rfl) .nil) (List.nil_sublist _) ?_
  exact ⟨hv5, rfl⟩
theorem lfew10_does {I : Imm} {vg va vb : Value} {gs : List Sy} {c d : List Li} (hg : RepG I vg gs) (ha : RepC I va c) (hb : RepC I vb d) :
    Does Tryz.prog 15 [vg, va, vb] I [] (fun v I' δ' => (∃ b, v = .bool b ∧ (b = true → FewC c ∧ FewC d)) ∧ δ' = []) := by
  refine Does.intro Tryz.func15 rfl Tryz.ntmps15 rfl fun w0 => ?_
  refine code_seq ?_
  refine code_region ?_
  refine op_v (v_assign rfl) rfl ?_
  refine ops_nil ?_
  refine post_next ?_
  refine code_seq ?_
  refine code_region ?_
  refine op_v (v_move rfl) rfl ?_
  refine op_call pl22 rfl rfl ((FewG_does hg)) Parts.none ?_
  rintro v8 I8 _ hI8 ⟨rfl, rfl⟩
  by_cases h9 : fewG gs = true
  · rw [h9]
    refine op_v (v_move rfl) rfl ?_
    refine op_want rfl rfl ?_
    refine op_v (v_move rfl) rfl ?_
    refine op_want rfl rfl ?_
    refine op_call pl23 rfl rfl ((Few10_does (ha.mono Imm.leA))) Parts.none ?_
    rintro v11 I11 _ hI11 ⟨⟨b11, rfl, hb11⟩, rfl⟩
    refine op_v (v_pickt rfl rfl) rfl ?_
    by_cases h13 : b11 = true
    · subst h13
      refine op_v (v_move rfl) rfl ?_
      refine op_want rfl rfl ?_
      refine op_v (v_move rfl) rfl ?_
      refine op_want rfl rfl ?_
      refine op_call pl23 rfl rfl ((Few10_does (hb.mono Imm.leA))) Parts.none ?_
      rintro v15 I15 _ hI15 ⟨⟨b15, rfl, hb15⟩, rfl⟩
      refine op_v (v_pickt rfl rfl) rfl ?_
      refine op_v (v_assign rfl) rfl ?_
      refine ops_nil ?_
      refine post_next ?_
      refine code_ret ?_
      refine post_ret (rs := [.tmp 6]) rfl (List.Perm.refl _) (.cons (.tmp rfl) .nil) (List.nil_sublist _) ?_
      exact ⟨⟨b15, rfl, fun h => ⟨hb11 rfl, hb15 h⟩⟩, rfl⟩
    · have h13' : b11 = false := by simpa using h13
      subst h13'
      refine op_v (v_move rfl) rfl ?_
      refine op_skip rfl rfl (by simp [undef]) rfl ?_
      refine op_skip rfl rfl (by simp [undef]) rfl ?_
      refine op_v (v_pickf rfl rfl) rfl ?_
      refine op_v (v_assign rfl) rfl ?_
      refine ops_nil ?_
      refine post_next ?_
      refine code_ret ?_
      refine post_ret (rs := [.tmp 6]) rfl (List.Perm.refl _) (.cons (.tmp rfl) .nil) (List.nil_sublist _) ?_
      exact ⟨⟨false, rfl, fun h => by cases h⟩, rfl⟩
  · have h9' : fewG gs = false := by simpa using h9
    rw [h9']
    refine op_v (v_move rfl) rfl ?_
    refine op_skip rfl rfl (by simp [undef]) rfl ?_
    refine op_skip rfl rfl (by simp [undef]) rfl ?_
    refine op_v (v_pickf rfl rfl) rfl ?_
    refine op_v (v_move rfl) rfl ?_
    refine op_skip rfl rfl (by simp [undef]) rfl ?_
    refine op_skip rfl rfl (by simp [undef]) rfl ?_
    refine op_v (v_pickf rfl rfl) rfl ?_
    refine op_v (v_assign rfl) rfl ?_
    refine ops_nil ?_
    refine post_next ?_
    refine code_ret ?_
    refine post_ret (rs := [.tmp 6]) rfl (List.Perm.refl _) (.cons (.tmp rfl) .nil) (List.nil_sublist _) ?_
    exact ⟨⟨false, rfl, fun h => by cases h⟩, rfl⟩
/-! ### plain: without variables -/
theorem hdsL_eq2 : ∀ ts : List T, (visL ts).map (·.2.head) = ts.flatMap hds
  | [] => rfl
  | t :: r => by
    rw [visL, List.map_append, hdsL_eq2 r, List.flatMap_cons]
    congr 1
    unfold hds
    rw [visT_eq, visT_eq]; rfl
theorem hds_eq2 (h : Int) (ts : List T) : hds (.mk h ts) = h :: ts.flatMap hds := by
  have : hds (.mk h ts) = h :: (visL ts).map (·.2.head) := by unfold hds; rw [visT_eq]; rfl
  rw [this, hdsL_eq2]
end Go.Proofs.YtdbadicpbmndbaaGreat
/- Terms and clauses with other variables: plainly, and walks: Shift, Apart. -/
set_option linter.unusedVariables false
set_option linter.unusedSimpArgs false
set_option linter.unnecessarySimpa false
/- short -/
namespace Go.Proofs.YtdbadicpbmndbaaGreat
open Go Lg

/-! ### plain -/
def shF (n : Int) (t : T) : T := .mk (t.head - n) []
def shT (n : Int) (t : T) : T := rbT (shF n) t
theorem shT_size (n : Int) (t : T) : (shT n t).size ≤ t.size := by
  have := rb_sizeT (shF n) 1 (Nat.le_refl _) (fun t _ => by have := t.size_pos; simp [shF, T.size, sizeL]; omega) t
  unfold shT; omega
def shE (n : Int) (t : T) : Int := if chkT t ≠ 0 then 1 else if n < 0 then 1 else if 255 < n then 1 else chkT (shT n t)
def byL (l : List Int) : Int := l.foldl (fun a v => max a (v + 1)) 0
theorem byL_take (l : List Int) (k : Nat) (h : k < l.length) : byL (l.take (k + 1)) = max (byL (l.take k)) (l[k] + 1) := by
  unfold byL; rw [List.take_succ_eq_append_getElem h, List.foldl_append]; rfl
theorem byL_nonneg (l : List Int) : 0 ≤ byL l := by
  have key : ∀ (l : List Int) (a : Int), a ≤ l.foldl (fun a v => max a (v + 1)) a := by
    intro l
    induction l with
    | nil => intro a; exact Int.le_refl _
    | cons x r ih => intro a; exact Int.le_trans (by omega) (ih (max a (x + 1)))
  exact key l 0
theorem byL_lt : ∀ {l : List Int} {v : Int}, v ∈ l → v < byL l := by
  have mono : ∀ (l : List Int) (a : Int), a ≤ l.foldl (fun a v => max a (v + 1)) a := by
    intro l
    induction l with
    | nil => intro a; exact Int.le_refl _
    | cons x r ih => intro a; exact Int.le_trans (by omega) (ih (max a (x + 1)))
  have key : ∀ (l : List Int) (a v : Int), v ∈ l → v < l.foldl (fun a v => max a (v + 1)) a := by
    intro l
    induction l with
    | nil => intro a v h; cases h
    | cons x r ih =>
      intro a v h
      rcases List.mem_cons.1 h with rfl | h
      · have := mono r (max a (v + 1))
        show v < r.foldl _ (max a (v + 1))
        omega
      · exact ih _ v h
  intro l v h
  exact key l 0 v h
/-- has variables -/
def anyV (t : T) : Bool := decide (0 < (varsP (partsT 1 t)).length)
def apT (n : Int) (t : T) : T := if anyV t = true then shT n t else t
def apBad (n : Int) (t : T) : Bool := anyV t && decide (shE n t ≠ 0)
def apartC (c d : List Li) : List Li := ofL d ((renL [] (sidesL d)).1.map (apT (byL (varsC c))))
def apartE (c d : List Li) : Bool := (sidesL d).any badT || ((sidesL c).any badT || (renL [] (sidesL d)).1.any (apBad (byL (varsC c))))
theorem mid_get {α : Type} (f : α → α) (L : List α) (k : Nat) (h : k < L.length) : ((L.take k).map f ++ L.drop k)[k]'(by simp; omega) = L[k] := by
  rw [List.getElem_append_right (by simp; omega)]
  simp [Nat.min_eq_left (Nat.le_of_lt h)]
theorem mid_set {α : Type} (f : α → α) (L : List α) (k : Nat) (h : k < L.length) : ((L.take k).map f ++ L.drop k).set k (f L[k]) = (L.take (k + 1)).map f ++ L.drop (k + 1) := by
  have e : ((L.take k).map f).length = k := by simp; omega
  rw [List.set_append_right _ _ (by omega), e, Nat.sub_self, List.drop_eq_getElem_cons h, List.set_cons_zero, List.take_succ_eq_append_getElem h, List.map_append]
  simp
theorem mid_keep {α : Type} (f : α → α) (L : List α) (k : Nat) (h : k < L.length) (e : f L[k] = L[k]) : (L.take k).map f ++ L.drop k = (L.take (k + 1)).map f ++ L.drop (k + 1) := by
  rw [List.drop_eq_getElem_cons h, List.take_succ_eq_append_getElem h, List.map_append]
  simp [e]
theorem RowT.rowE {I : Imm} : ∀ {ts : List T} {xs : List Value}, RowT I xs ts → RowE TermE I xs ts
  | [], xs, h => List.eq_nil_of_length_eq_zero (by simpa using h.1)
  | t :: r, [], h => by have := h.1; simp at this
  | t :: r, [_], h => by have := h.1; simp at this; omega
  | t :: r, x :: y :: zs, h => by
    obtain ⟨s, h1, h2, h3⟩ := h.2 0 (by simp)
    simp at h1 h2 h3
    subst h1; subst h2
    refine ⟨[_, _], zs, rfl, ⟨s.1, s.2, rfl, h3⟩, RowT.rowE ⟨by have := h.1; simp at this; omega, fun i hi => ?_⟩⟩
    obtain ⟨s, k1, k2, k3⟩ := h.2 (i + 1) (by simpa using hi)
    refine ⟨s, ?_, ?_, by simpa using k3⟩
    · have e : (i + 1) * 2 = i * 2 + 1 + 1 := by omega
      rw [e] at k1; simpa using k1
    · have e : (i + 1) * 2 + 1 = i * 2 + 1 + 1 + 1 := by omega
      rw [e] at k2; simpa using k2
theorem sizeL_getR (ns : List Int) (ts : List T) : sizeL (renL ns ts).1 ≤ sizeL ts := by
  have key : ∀ (n : Nat), (∀ (t : T) (ns : List Int), t.size ≤ n → (renT ns t).1.size ≤ t.size) ∧ ∀ (ts : List T) (ns : List Int), sizeL ts ≤ n → sizeL (renL ns ts).1 ≤ sizeL ts := by
    intro n
    induction n with
    | zero =>
      refine ⟨fun t ns h => by have := t.size_pos; omega, fun ts ns h => ?_⟩
      cases ts with
      | nil => simp [renL]
      | cons t r => have := t.size_pos; simp [sizeL] at h; omega
    | succ n ih =>
      have hT : ∀ (t : T) (ns : List Int), t.size ≤ n + 1 → (renT ns t).1.size ≤ t.size := fun t ns h => by
        obtain ⟨k, ts⟩ := t
        simp only [T.size] at h
        simp only [renT]
        split
        · simp [T.size, sizeL]
        · have := ih.2 ts ns (by omega)
          simp only [T.size]; omega
      refine ⟨hT, fun ts => ?_⟩
      induction ts with
      | nil => intro ns _; simp [renL]
      | cons t r ihr =>
        intro ns h
        simp only [sizeL] at h
        have h1 := hT t ns (by omega)
        have h2 := ihr (renT ns t).2 (by omega)
        simp only [renL, sizeL]; omega
  exact (key (sizeL ts)).2 ts ns (Nat.le_refl _)
def shW (n : Int) (t : T) : T := .mk (IntKind.i64.wrap (t.head - n)) []
theorem wrap_in (x : Int) : InR (IntKind.i64.wrap x) := by unfold InR; rw [IntKind.wrap_i64]; omega
mutual
theorem shW_T {n : Int} (hn : 0 ≤ n ∧ n ≤ 255) : ∀ t : T, (∀ k ∈ hds t, -256 ≤ k) → rbT (shW n) t = rbT (shF n) t
  | .mk h us, hk => by
    rw [hds_eq2] at hk
    simp only [rbT]
    split
    · rename_i hneg
      have : -256 ≤ h := hk h (List.mem_cons_self ..)
      simp only [shW, shF, T.head]; rw [wrap_id ⟨by omega, by omega⟩]
    · rw [shW_L hn us fun k hk' => hk k (List.mem_cons_of_mem _ hk')]
theorem shW_L {n : Int} (hn : 0 ≤ n ∧ n ≤ 255) : ∀ us : List T, (∀ k ∈ us.flatMap hds, -256 ≤ k) → rbL (shW n) us = rbL (shF n) us
  | [], _ => rfl
  | t :: r, hk => by
    rw [List.flatMap_cons] at hk
    simp only [rbL]
    rw [shW_T hn t fun k h => hk k (List.mem_append_left _ h), shW_L hn r fun k h => hk k (List.mem_append_right _ h)]
end
theorem chk_hds {t : T} (h : chkT t = 0) : ∀ k ∈ hds t, -256 ≤ k := fun k hk => by
  obtain ⟨x, hx, rfl⟩ := List.mem_map.1 hk
  exact (chk_vis h x hx).2
theorem varsP_get : ∀ {l : List (Nat × T)} {v : Int}, v ∈ varsP l → ∃ x ∈ l, x.2.head = -1 - v ∧ 0 ≤ v := by
  intro l
  induction l using snoc_ind with
  | h0 => intro v h; cases h
  | h1 l y ih =>
    intro v h
    rw [varsP_snoc] at h
    split at h
    · rename_i hy
      rcases List.mem_append.1 h with h | h
      · obtain ⟨x, hx, e⟩ := ih h; exact ⟨x, List.mem_append_left _ hx, e⟩
      · simp at h; subst h
        exact ⟨y, by simp, by omega, hy.1⟩
    · obtain ⟨x, hx, e⟩ := ih h; exact ⟨x, List.mem_append_left _ hx, e⟩
theorem parts_hds {t : T} {x : Nat × T} (hx : x ∈ partsT 1 t) : x.2.head ∈ hds t := by
  have h2 : x.2 ∈ (partsT 1 t).map (·.2) := List.mem_map_of_mem (f := fun x : Nat × T => x.2) hx
  rw [snd_T 1 true t] at h2
  obtain ⟨y, hy, e⟩ := List.mem_map.1 h2
  rw [← e]; exact List.mem_map_of_mem (f := fun x : Bool × T => x.2.head) hy
theorem varsGo_get : ∀ {ts : List T} {acc : List Int} {v : Int}, v ∈ varsGo acc ts → v ∈ acc ∨ ∃ t ∈ ts, v ∈ varsP (partsT 1 t)
  | [], acc, v, h => .inl h
  | t :: r, acc, v, h => by
    rcases varsGo_get (ts := r) (acc := uniL acc (varsP (partsT 1 t))) h with h | ⟨u, hu, h⟩
    · rcases (uniL_mem _ _ _).1 h with h | h
      · exact .inl h
      · exact .inr ⟨t, List.mem_cons_self .., h⟩
    · exact .inr ⟨u, List.mem_cons_of_mem _ hu, h⟩
theorem varsC_in {c : List Li} (h : (sidesL c).any badT = false) : ∀ v ∈ varsC c, 0 ≤ v ∧ v ≤ 255 := fun v hv => by
  rcases varsGo_get hv with h | ⟨t, ht, hv⟩
  · cases h
  · obtain ⟨x, hx, e, h0⟩ := varsP_get hv
    have hb : badT t = false := by simpa using List.any_eq_false.1 h t ht
    have hc : chkT t = 0 := by unfold badT at hb; simpa using hb
    have := chk_hds hc _ (parts_hds hx)
    omega
/-! ### walks -/
theorem shiftOf_does {I : Imm} {n : Int} {v : Value} {t : T} (hv : RepT I v t) :
    Does Tryz.prog 97 [.int .i64 n, v] I [] (fun v I' δ' => RepT I' v (shW n t) ∧ δ' = []) := by
  obtain ⟨a0, c0, rfl, hr0⟩ := hv.shape
  refine Does.intro Tryz.func97 rfl Tryz.ntmps97 rfl fun w0 => ?_
  refine code_seq ?_
  refine code_region ?_
  refine o_box rfl rfl rfl (fun b3 => ?_)
  refine o_alloc z48 rfl rfl (fun b4 => ?_)
  refine ops_nil ?_
  refine post_next ?_
  refine code_seq ?_
  refine code_region ?_
  refine op_v (v_fieldB 0 Tryz.underlying48 rfl rfl fz3 rfl) rfl ?_
  refine op_v (v_loadA ty3 rfl rfl) rfl ?_
  refine op_v (v_move rfl) rfl ?_
  refine op_v (v_sub rfl rfl) rfl ?_
  refine op_v (v_build bl48 rfl rfl) rfl ?_
  refine o_store ty48 rfl rfl rfl rfl rfl (by repeat (first | exact Swap.here | apply Swap.there)) rfl ?_
  refine ops_nil ?_
  refine post_next ?_
  refine code_ret ?_
  refine post_ret (rs := [.cell 4 48]) rfl (List.Perm.refl _) (.cons (.cell rfl ty48 (by repeat (first | exact Has.here | apply Has.there)) rfl) .nil) (List.nil_sublist _) ?_
  exact ⟨RepT.mk _ (shW n t) (wrap_in _) (RepS.nil _), rfl⟩
theorem Shift_does {I : Imm} {n : Int} {v : Value} {t : T} (hv : RepT I v t) (hbig : t.size ≤ 1000000000) :
    Does Tryz.prog 52 [v, .int .i64 n] I [] (fun v I' δ' => (∃ u, v = .tuple #[u, .int .i64 (shE n t)] ∧ RepT I' u (if shE n t = 0 then shT n t else zeroT)) ∧ δ' = []) := by
  obtain ⟨a0, c0, rfl, hr0⟩ := hv.shape
  refine Does.intro Tryz.func52 rfl Tryz.ntmps52 rfl fun w0 => ?_
  refine code_seq ?_
  refine code_region ?_
  refine o_box rfl rfl rfl (fun b2 => ?_)
  refine o_alloc z48 rfl rfl (fun b4 => ?_)
  refine op_v (v_assign rfl) rfl ?_
  refine ops_nil ?_
  refine post_next ?_
  refine code_seq ?_
  refine code_seq ?_
  refine code_region ?_
  refine op_v (v_loadA ty48 rfl rfl) rfl ?_
  refine op_call pl49 rfl rfl ((TCheck_does hv hbig)) Parts.none ?_
  rintro v7 I7 _ hI7 ⟨rfl, rfl⟩
  by_cases h8 : chkT t ≠ 0
  · have he : shE n t = 1 := if_pos h8
    refine op_v (v_cmptA rfl rfl rfl) rfl ?_
    refine op_v (v_move rfl) rfl ?_
    refine op_skip rfl rfl (by simp [undef]) rfl ?_
    refine op_skip rfl rfl (by simp [undef]) rfl ?_
    refine op_v (v_pickt rfl rfl) rfl ?_
    refine op_v (v_move rfl) rfl ?_
    refine op_skip rfl rfl (by simp [undef]) rfl ?_
    refine op_skip rfl rfl (by simp [undef]) rfl ?_
    refine op_v (v_pickt rfl rfl) rfl ?_
    refine ops_nil ?_
    refine post_next ?_
    refine code_cond_t rfl ?_
    refine code_seq ?_
    refine code_region ?_
    refine op_v (v_build bl48 rfl rfl) rfl ?_
    refine o_store ty48 rfl rfl rfl rfl rfl (by repeat (first | exact Swap.here | apply Swap.there)) rfl ?_
    refine op_v (v_assign rfl) rfl ?_
    refine ops_nil ?_
    refine post_next ?_
    refine code_ret ?_
    refine post_ret_then ?_
    refine post_ret (rs := [.cell 4 48, .tmp 5]) rfl (List.Perm.refl _) (.cons (.cell rfl ty48 (by repeat (first | exact Has.here | apply Has.there)) rfl) (.cons (.tmp rfl) .nil)) (List.nil_sublist _) ?_
    exact ⟨⟨_, by rw [he]; rfl, by rw [he, if_neg (by decide)]; exact zeroT_rep _⟩, rfl⟩
  · refine op_v (v_cmpfA rfl rfl rfl) rfl ?_
    refine op_v (v_move rfl) rfl ?_
    refine op_want rfl rfl ?_
    refine op_v (v_move rfl) rfl ?_
    by_cases h11 : n < 0
    · have he : shE n t = 1 := by unfold shE; rw [if_neg h8, if_pos h11]
      first
        | (refine op_want rfl rfl ?_
           refine op_v (v_cmptA rfl rfl rfl) rfl ?_)
        | (refine op_skip rfl rfl (by simp [undef]) rfl ?_)
      refine op_v (v_pickf rfl rfl) rfl ?_
      refine op_v (v_move rfl) rfl ?_
      refine op_skip rfl rfl (by simp [undef]) rfl ?_
      refine op_skip rfl rfl (by simp [undef]) rfl ?_
      refine op_v (v_pickt rfl rfl) rfl ?_
      refine ops_nil ?_
      refine post_next ?_
      refine code_cond_t rfl ?_
      refine code_seq ?_
      refine code_region ?_
      refine op_v (v_build bl48 rfl rfl) rfl ?_
      refine o_store ty48 rfl rfl rfl rfl rfl (by repeat (first | exact Swap.here | apply Swap.there)) rfl ?_
      refine op_v (v_assign rfl) rfl ?_
      refine ops_nil ?_
      refine post_next ?_
      refine code_ret ?_
      refine post_ret_then ?_
      refine post_ret (rs := [.cell 4 48, .tmp 5]) rfl (List.Perm.refl _) (.cons (.cell rfl ty48 (by repeat (first | exact Has.here | apply Has.there)) rfl) (.cons (.tmp rfl) .nil)) (List.nil_sublist _) ?_
      exact ⟨⟨_, by rw [he]; rfl, by rw [he, if_neg (by decide)]; exact zeroT_rep _⟩, rfl⟩
    · first
        | (refine op_want rfl rfl ?_
           refine op_v (v_cmpfA rfl rfl rfl) rfl ?_)
        | (refine op_skip rfl rfl (by simp [undef]) rfl ?_)
      refine op_v (v_pickf rfl rfl) rfl ?_
      refine op_v (v_move rfl) rfl ?_
      refine op_want rfl rfl ?_
      refine op_v (v_move rfl) rfl ?_
      by_cases h15 : 255 < n
      · have he : shE n t = 1 := by unfold shE; rw [if_neg h8, if_neg h11, if_pos h15]
        first
          | (refine op_want rfl rfl ?_
             refine op_v (v_cmptA rfl rfl rfl) rfl ?_)
          | (refine op_skip rfl rfl (by simp [undef]) rfl ?_)
        refine op_v (v_pickf rfl rfl) rfl ?_
        refine ops_nil ?_
        refine post_next ?_
        refine code_cond_t rfl ?_
        refine code_seq ?_
        refine code_region ?_
        refine op_v (v_build bl48 rfl rfl) rfl ?_
        refine o_store ty48 rfl rfl rfl rfl rfl (by repeat (first | exact Swap.here | apply Swap.there)) rfl ?_
        refine op_v (v_assign rfl) rfl ?_
        refine ops_nil ?_
        refine post_next ?_
        refine code_ret ?_
        refine post_ret_then ?_
        refine post_ret (rs := [.cell 4 48, .tmp 5]) rfl (List.Perm.refl _) (.cons (.cell rfl ty48 (by repeat (first | exact Has.here | apply Has.there)) rfl) (.cons (.tmp rfl) .nil)) (List.nil_sublist _) ?_
        exact ⟨⟨_, by rw [he]; rfl, by rw [he, if_neg (by decide)]; exact zeroT_rep _⟩, rfl⟩
      · have he : shE n t = chkT (shT n t) := by unfold shE; rw [if_neg h8, if_neg h11, if_neg h15]
        have hw : rbT (shW n) t = shT n t := shW_T ⟨by omega, by omega⟩ t (chk_hds (by omega))
        first
          | (refine op_want rfl rfl ?_
             refine op_v (v_cmpfA rfl rfl rfl) rfl ?_)
          | (refine op_skip rfl rfl (by simp [undef]) rfl ?_)
        refine op_v (v_pickf rfl rfl) rfl ?_
        refine ops_nil ?_
        refine post_next ?_
        refine code_cond_f rfl ?_
        refine code_skip ?_
        refine post_next ?_
        refine code_seq ?_
        refine code_region ?_
        refine op_v (v_loadA ty48 rfl rfl) rfl ?_
        refine op_v (v_move rfl) rfl ?_
        refine op_v (v_makeFunc rfl rfl) rfl ?_
        refine op_call pl96 rfl rfl ((rebuild_does (I0 := I7) (fun J v u hJ hu => FDoes.ofFirst (firsts := [_]) pl97 (shiftOf_does hu)) t.size t (Nat.le_refl _) _ _ (Imm.le_refl _) (hv.mono Imm.leA))) Parts.none ?_
        rintro v21 I21 _ hI21 ⟨hv21, rfl⟩
        rw [hw] at hv21
        refine op_call pl95 rfl rfl ((end_does hv21 (by have := shT_size n t; omega))) Parts.none ?_
        rintro v22 I22 _ hI22 ⟨⟨u22, rfl, hv22⟩, rfl⟩
        obtain ⟨a22, c22, rfl, _⟩ := hv22.shape
        refine op_v (v_extract rfl rfl) rfl ?_
        refine op_v (v_extract rfl rfl) rfl ?_
        refine o_store ty48 rfl rfl rfl rfl rfl (by repeat (first | exact Swap.here | apply Swap.there)) rfl ?_
        refine op_v (v_assign rfl) rfl ?_
        refine ops_nil ?_
        refine post_next ?_
        refine code_ret ?_
        refine post_ret (rs := [.cell 4 48, .tmp 5]) rfl (List.Perm.refl _) (.cons (.cell rfl ty48 (by repeat (first | exact Has.here | apply Has.there)) rfl) (.cons (.tmp rfl) .nil)) (List.nil_sublist _) ?_
        exact ⟨⟨_, by rw [he]; rfl, by rw [he]; exact hv22⟩, rfl⟩
theorem Apart1_does {I : Imm} {v : Value} {t : T} (hv : RepT I v t) (hbig : t.size ≤ 1000000000) :
    Does Tryz.prog 48 [v] I [] (fun v _ δ' => v = .bool (badT t) ∧ δ' = []) := by
  obtain ⟨ua, uc, rfl, _⟩ := hv.shape
  refine Does.intro Tryz.func48 rfl Tryz.ntmps48 rfl fun w0 => ?_
  refine code_seq ?_
  refine code_region ?_
  refine o_box rfl rfl rfl (fun b1 => ?_)
  refine op_v (v_assign rfl) rfl ?_
  refine ops_nil ?_
  refine post_next ?_
  refine code_seq ?_
  refine code_region ?_
  refine op_v (v_loadA ty48 rfl rfl) rfl ?_
  refine op_call pl49 rfl rfl ((TCheck_does hv hbig)) Parts.none ?_
  rintro v4 I4 _ hI4 ⟨rfl, rfl⟩
  refine op_v (v_cmp (z := badT t) rfl rfl rfl) rfl ?_
  refine op_v (v_assign rfl) rfl ?_
  refine ops_nil ?_
  refine post_next ?_
  refine code_ret ?_
  refine post_ret (rs := [.tmp 2]) rfl (List.Perm.refl _) (.cons (.tmp rfl) .nil) (List.nil_sublist _) ?_
  exact ⟨rfl, rfl⟩
theorem CApart_does {I : Imm} {va vb : Value} {c d : List Li} (ha : RepC I va c) (hb : RepC I vb d) (hsc : sizeL (sidesL c) ≤ 100000) (hsd : sizeL (sidesL d) ≤ 100000) :
    Does Tryz.prog 18 [va, vb] I [] (fun v I' δ' => ((apartE c d = true ∧ v = .tuple #[.slice none 0 0, .int .i64 1]) ∨ (apartE c d = false ∧ ∃ a k, v = .tuple #[.slice a d.length k, .int .i64 0] ∧ RepC I' (.slice a d.length k) (apartC c d))) ∧ δ' = []) := by
  have hl2 := sidesL_len d
  have hsz := sizeL_getL hsc
  obtain ⟨da, dc, hsh⟩ := RepE.shape hb
  subst hsh
  have hdl := hb.small
  refine Does.intro Tryz.func18 rfl Tryz.ntmps18 rfl fun w0 => ?_
  refine code_seq ?_
  refine code_region ?_
  refine op_v (v_assign rfl) rfl ?_
  refine op_v (v_assign rfl) rfl ?_
  refine ops_nil ?_
  refine post_next ?_
  refine code_seq ?_
  refine code_region ?_
  refine op_v (v_move rfl) rfl ?_
  refine op_call pl46 rfl rfl ((Cterms_does hb)) Parts.none ?_
  rintro v15 I15 _ hI15 ⟨hs15, rfl⟩
  refine op_call pl45 rfl rfl ((MNorm_does hs15 hsd)) Parts.none ?_
  rintro v16 I16 δ16 hI16 HR16
  refine op_v (v_move rfl) rfl ?_
  rcases HR16 with ⟨hbad, rfl, rfl⟩ | ⟨hgood, a16, c16, zs, rfl, hz, rfl⟩
  · refine op_v (v_extract rfl rfl) rfl ?_
    refine op_v (v_extract rfl rfl) rfl ?_
    refine op_v (v_assign rfl) rfl ?_
    refine op_v (v_assign rfl) rfl ?_
    refine ops_nil ?_
    refine post_next ?_
    refine code_seq ?_
    refine code_seq ?_
    refine code_region ?_
    refine op_v (v_move rfl) rfl ?_
    refine op_v (v_cmptA rfl rfl rfl) rfl ?_
    refine op_v (v_move rfl) rfl ?_
    refine op_skip rfl rfl (by simp [undef]) rfl ?_
    refine op_skip rfl rfl (by simp [undef]) rfl ?_
    refine op_skip rfl rfl (by simp [undef]) rfl ?_
    refine op_v (v_pickt rfl rfl) rfl ?_
    refine ops_nil ?_
    refine post_next ?_
    refine code_cond_t rfl ?_
    refine code_seq ?_
    refine code_region ?_
    refine op_v (v_assign rfl) rfl ?_
    refine op_v (v_assign rfl) rfl ?_
    refine ops_nil ?_
    refine post_next ?_
    refine code_ret ?_
    refine post_ret_then ?_
    refine post_ret (rs := [.tmp 4, .tmp 5]) rfl (List.Perm.refl _) (.cons (.tmp rfl) (.cons (.tmp rfl) .nil)) (List.nil_sublist _) ?_
    exact ⟨.inl ⟨by unfold apartE; rw [hbad]; rfl, rfl⟩, rfl⟩
  · obtain ⟨L, hL⟩ : ∃ L, L = (renL [] (sidesL d)).1 := ⟨_, rfl⟩
    have hLl : L.length = (sidesL d).length := by rw [hL]; exact renL_len _ _
    rw [← hL] at hz
    have hzE := RowT.rowE hz
    have hLs : sizeL L ≤ sizeL (sidesL d) := by rw [hL]; exact sizeL_getR _ _
    obtain ⟨N, hN⟩ : ∃ N, N = byL (varsC c) := ⟨_, rfl⟩
    refine op_v (v_extract rfl rfl) rfl ?_
    refine op_v (v_extract rfl rfl) rfl ?_
    refine op_v (v_assign rfl) rfl ?_
    refine op_v (v_assign rfl) rfl ?_
    refine ops_nil ?_
    refine post_next ?_
    refine code_seq ?_
    refine code_seq ?_
    refine code_region ?_
    refine op_v (v_move rfl) rfl ?_
    refine op_v (v_cmpfA rfl rfl rfl) rfl ?_
    refine op_v (v_move rfl) rfl ?_
    refine op_want rfl rfl ?_
    refine op_v (v_move rfl) rfl ?_
    refine op_want rfl rfl ?_
    refine op_call pl46 rfl rfl ((Cterms_does (ha.mono Imm.leA))) Parts.none ?_
    rintro v23 I23 _ hI23 ⟨hs23, rfl⟩
    refine op_want rfl rfl ?_
    refine op_call pl47 rfl rfl ((ContT_does (p := badT) hs23 (fun J u t hJ hu ht => Does.toF (args := [_]) (by kernel_rfl) (Apart1_does hu (by have := hsz t ht; omega))))) Parts.none ?_
    rintro v24 I24 _ hI24 ⟨rfl, rfl⟩
    by_cases h25 : (sidesL c).any badT = true
    · rw [h25]
      refine op_v (v_pickf rfl rfl) rfl ?_
      refine ops_nil ?_
      refine post_next ?_
      refine code_cond_t rfl ?_
      refine code_seq ?_
      refine code_region ?_
      refine op_v (v_assign rfl) rfl ?_
      refine op_v (v_assign rfl) rfl ?_
      refine ops_nil ?_
      refine post_next ?_
      refine code_ret ?_
      refine post_ret_then ?_
      refine post_ret (rs := [.tmp 4, .tmp 5]) rfl (List.Perm.refl _) (.cons (.tmp rfl) (.cons (.tmp rfl) .nil)) (List.nil_sublist _) ?_
      exact ⟨.inl ⟨by unfold apartE; rw [hgood, h25]; rfl, rfl⟩, rfl⟩
    · have h25' : (sidesL c).any badT = false := by simpa using h25
      rw [h25']
      have hvin := varsC_in h25'
      refine op_v (v_pickf rfl rfl) rfl ?_
      refine ops_nil ?_
      refine post_next ?_
      refine code_cond_f rfl ?_
      refine code_skip ?_
      refine post_next ?_
      refine code_seq ?_
      refine code_region ?_
      refine op_v (v_assign rfl) rfl ?_
      refine ops_nil ?_
      refine post_next ?_
      refine code_seq ?_
      refine code_seq ?_
      refine code_region ?_
      refine op_v (v_move rfl) rfl ?_
      refine op_call pl50 rfl rfl ((CVars_does (ha.mono Imm.leA) hsc)) Parts.none ?_
      rintro v27 I27 _ hI27 ⟨hv27, rfl⟩
      have hn27 := hv27.len
      obtain ⟨wa, wc, rfl⟩ := hv27.shape
      refine op_v (v_len Tryz.underlying30 rfl) rfl ?_
      refine op_v (v_move rfl) rfl ?_
      refine ops_nil ?_
      refine post_next ?_
      refine code_block ?_
      refine code_loop (fun m σ' I' δ' => ∃ k : Nat, m = (varsC c).length - k ∧ k ≤ (varsC c).length ∧ σ' = [(1, .slice da d.length dc), (6, .slice a16 (sidesL d).length c16), (8, .int .i64 (byL ((varsC c).take k))), (27, .slice wa (varsC c).length wc), (28, .int .i64 (varsC c).length), (29, .int .i64 k)] ∧ I27.le I' ∧ δ' = [tRow a16 c16 (sidesL d).length zs]) (varsC c).length [(1, .slice da d.length dc), (6, .slice a16 (sidesL d).length c16), (8, .int .i64 0), (27, .slice wa (varsC c).length wc), (28, .int .i64 (varsC c).length), (29, .int .i64 (0 : Nat))] ⟨0, rfl, Nat.zero_le _, rfl, Imm.le_refl _, rfl⟩ ⟨rfl, rfl, rfl, rfl, rfl, rfl, trivial⟩ ?_
      rintro m _ I0 _ ⟨k, rfl, hk, rfl, hI0, rfl⟩
      refine code_seq ?_
      refine code_region ?_
      refine op_v (v_cmp rfl rfl rfl) rfl ?_
      refine ops_nil ?_
      refine post_next ?_
      refine code_seq ?_
      refine code_cond rfl (fun hc1 => ?_) (fun hc1 => ?_)
      · have hlt : k < (varsC c).length := by simpa using hc1
        have hatk := hv27.atI k hlt
        have hs2 := hatk.isSome
        have hin := hvin _ (List.getElem_mem hlt)
        have hbt := byL_take (varsC c) k hlt
        refine code_skip ?_
        refine post_next ?_
        refine code_seq ?_
        refine code_block ?_
        refine code_seq ?_
        refine code_region ?_
        refine op_v (v_indexA Tryz.underlying30 sz3 rfl rfl) rfl ?_
        refine op_v (v_loadI0 ty3 (hatk.mono hI0) rfl rfl rfl) rfl ?_
        refine op_v (v_assign rfl) rfl ?_
        refine ops_nil ?_
        refine post_next ?_
        refine code_region ?_
        refine op_v (v_move rfl) rfl ?_
        refine op_v (v_move rfl) rfl ?_
        refine op_v (v_addb (c := (varsC c)[k] + 1) rfl rfl rfl (by omega)) rfl ?_
        refine op_v (v_max rfl rfl) rfl ?_
        refine op_v (v_assign rfl) rfl ?_
        refine ops_nil ?_
        refine post_out ?_
        refine post_next ?_
        refine code_region ?_
        refine op_v (v_addb rfl rfl rfl (by omega)) rfl ?_
        refine op_v (v_move rfl) rfl ?_
        refine ops_nil ?_
        refine post_again ((varsC c).length - (k + 1)) [(1, .slice da d.length dc), (6, .slice a16 (sidesL d).length c16), (8, .int .i64 (byL ((varsC c).take (k + 1)))), (27, .slice wa (varsC c).length wc), (28, .int .i64 (varsC c).length), (29, .int .i64 (k + 1 : Nat))] (by omega) ⟨k + 1, rfl, hlt, rfl, Imm.leA, rfl⟩ ⟨rfl, rfl, by rw [hbt]; rfl, rfl, rfl, rfl, trivial⟩
      · have hge : k = (varsC c).length := by simp at hc1; omega
        subst hge
        rw [List.take_length, ← hN]
        refine code_exit ?_
        refine post_exit_then ?_
        refine post_exit_then ?_
        refine post_exit ?_
        refine post_next ?_
        refine code_seq ?_
        refine code_seq ?_
        refine code_region ?_
        refine op_v (v_move rfl) rfl ?_
        refine op_v (v_len Tryz.underlying46 rfl) rfl ?_
        refine op_v (v_move rfl) rfl ?_
        refine ops_nil ?_
        refine post_next ?_
        refine code_block ?_
        refine code_loop (fun m σ' I' δ' => ∃ (k : Nat) (ys : List Value), m = L.length - k ∧ k ≤ L.length ∧ σ' = [(1, .slice da d.length dc), (6, .slice a16 (sidesL d).length c16), (8, .int .i64 N), (38, .slice a16 (sidesL d).length c16), (39, .int .i64 (sidesL d).length), (40, .int .i64 k)] ∧ I0.le I' ∧ δ' = [tRow a16 c16 (sidesL d).length ys] ∧ RowE TermE I' ys ((L.take k).map (apT N) ++ L.drop k) ∧ ∀ j (h : j < L.length), j < k → apBad N L[j] = false) L.length [(1, .slice da d.length dc), (6, .slice a16 (sidesL d).length c16), (8, .int .i64 N), (38, .slice a16 (sidesL d).length c16), (39, .int .i64 (sidesL d).length), (40, .int .i64 (0 : Nat))] ⟨0, zs, rfl, Nat.zero_le _, rfl, Imm.le_refl _, rfl, hzE.mono Imm.leA, fun j _ h => by omega⟩ ⟨rfl, rfl, rfl, rfl, rfl, rfl, trivial⟩ ?_
        rintro m _ I1 _ ⟨k2, ys, rfl, hk2, rfl, hI1, rfl, hys, hok⟩
        refine code_seq ?_
        refine code_region ?_
        refine op_v (v_cmp rfl rfl rfl) rfl ?_
        refine ops_nil ?_
        refine post_next ?_
        refine code_seq ?_
        refine code_cond rfl (fun hc2 => ?_) (fun hc2 => ?_)
        · have hlt2 : k2 < L.length := by have h := hc2; simp at h; omega
          have hkm : k2 < ((L.take k2).map (apT N) ++ L.drop k2).length := by simp; omega
          have hat := hys.at hkm
          rw [mid_get _ L k2 hlt2] at hat
          obtain ⟨vs, ⟨a', c', rfl, hrk⟩, _, r, hdrop⟩ := hat
          have hsk : L[k2].size ≤ 100000 := by have := sizeL_getL (Nat.le_trans hLs hsd) _ (List.getElem_mem hlt2); omega
          refine code_skip ?_
          refine post_next ?_
          refine code_seq ?_
          refine code_block ?_
          refine code_seq ?_
          refine code_region ?_
          refine op_v (v_move rfl) rfl ?_
          refine OpsJ.rowSome Has.here (by omega) (fun hA hcr => ?_)
          refine op_v (v_indexA Tryz.underlying46 sz48 rfl rfl) rfl ?_
          refine op_v (v_loadRow (v := .agg #[.int .i64 L[k2].head, .slice a' L[k2].args.length c']) ty48 rfl Has.here hA (by rw [hdrop]; rfl)) rfl ?_
          refine o_alloc z48 rfl rfl (fun b12 => ?_)
          refine op_v (v_assign rfl) rfl ?_
          refine o_store ty48 rfl rfl rfl rfl rfl (by repeat (first | exact Swap.here | apply Swap.there)) rfl ?_
          refine ops_nil ?_
          refine post_next ?_
          refine code_seq ?_
          refine code_seq ?_
          refine code_region ?_
          refine op_v (v_loadA ty48 rfl rfl) rfl ?_
          refine op_call pl51 rfl rfl ((TVars_does hrk (by omega))) Parts.none ?_
          rintro v46 I46 _ hI46 ⟨hv46, rfl⟩
          obtain ⟨xa, xc, rfl⟩ := hv46.shape
          refine op_v (v_len Tryz.underlying30 rfl) rfl ?_
          by_cases h48 : (varsP (partsT 1 L[k2])).length = 0
          · have hany : anyV L[k2] = false := by unfold anyV; rw [h48]; rfl
            have hap : apT N L[k2] = L[k2] := by unfold apT; rw [hany]; rfl
            have hbd : apBad N L[k2] = false := by unfold apBad; rw [hany]; rfl
            refine op_v (v_cmptA rfl rfl rfl) rfl ?_
            refine ops_nil ?_
            refine post_next ?_
            refine code_cond_t rfl ?_
            refine code_exit ?_
            refine post_exit_then ?_
            refine post_exit ?_
            refine post_next ?_
            refine code_region ?_
            refine op_v (v_addb rfl rfl rfl (by omega)) rfl ?_
            refine op_v (v_move rfl) rfl ?_
            refine ops_nil ?_
            refine PostJ.view (View.drop Del.here) ?_
            refine post_again (L.length - (k2 + 1)) [(1, .slice da d.length dc), (6, .slice a16 (sidesL d).length c16), (8, .int .i64 N), (38, .slice a16 (sidesL d).length c16), (39, .int .i64 (sidesL d).length), (40, .int .i64 (k2 + 1 : Nat))] (by omega) ⟨k2 + 1, ys, rfl, hlt2, rfl, Imm.leA, rfl, by rw [← mid_keep _ L k2 hlt2 hap]; exact hys.mono Imm.leA, fun j hj hjk => ?_⟩ ⟨rfl, rfl, rfl, rfl, rfl, rfl, trivial⟩
            rcases Nat.lt_or_ge j k2 with q | q
            · exact hok j hj q
            · have e : j = k2 := by omega
              subst e; exact hbd
          · have hany : anyV L[k2] = true := by unfold anyV; rw [decide_eq_true (by omega)]
            have hap : apT N L[k2] = shT N L[k2] := by unfold apT; rw [hany]; rfl
            refine op_v (v_cmpfA rfl rfl rfl) rfl ?_
            refine ops_nil ?_
            refine post_next ?_
            refine code_cond_f rfl ?_
            refine code_skip ?_
            refine post_next ?_
            refine code_seq ?_
            refine code_region ?_
            refine op_v (v_move rfl) rfl ?_
            refine op_v (v_move rfl) rfl ?_
            refine op_v (v_loadA ty48 rfl rfl) rfl ?_
            refine op_v (v_move rfl) rfl ?_
            refine op_call pl52 rfl rfl ((Shift_does (n := N) (hrk.mono Imm.leA) (by omega))) Parts.none ?_
            rintro v54 I54 _ hI54 ⟨⟨u54, rfl, hv54⟩, rfl⟩
            obtain ⟨w, hw⟩ : ∃ w, w = if shE N L[k2] = 0 then shT N L[k2] else zeroT := ⟨_, rfl⟩
            rw [← hw] at hv54
            obtain ⟨a54, c54, rfl, _⟩ := hv54.shape
            obtain ⟨vs1, ⟨_, _, rfl, _⟩, _, hst1⟩ := (hys.mono (show I1.le I54 from Imm.leA)).store (b := w) hkm
            obtain ⟨ys1, hst, hrow1⟩ := hst1 0 [.int .i64 w.head, .slice a54 w.args.length c54] _ rfl ⟨a54, c54, rfl, hv54⟩
            refine op_v (v_move rfl) rfl ?_
            refine op_v (v_extract rfl rfl) rfl ?_
            refine op_v (v_extract rfl rfl) rfl ?_
            refine op_v (v_indexA Tryz.underlying46 sz48 rfl rfl) rfl ?_
            refine o_storeRow (xs' := ys1) ty48 rfl rfl hA rfl rfl rfl (by simp [cellsL]) (Swap.there Swap.here) hst ?_
            refine op_v (v_assign rfl) rfl ?_
            refine ops_nil ?_
            refine post_next ?_
            refine code_seq ?_
            refine code_region ?_
            refine op_v (v_move rfl) rfl ?_
            by_cases h59 : shE N L[k2] ≠ 0
            · refine op_v (v_cmptA rfl rfl rfl) rfl ?_
              refine ops_nil ?_
              refine post_next ?_
              refine code_cond_t rfl ?_
              refine code_seq ?_
              refine code_region ?_
              refine op_v (v_assign rfl) rfl ?_
              refine op_v (v_assign rfl) rfl ?_
              refine ops_nil ?_
              refine post_next ?_
              refine code_ret ?_
              refine post_ret_block ?_
              refine post_ret_then ?_
              refine post_ret_then ?_
              refine post_ret_block ?_
              refine post_ret_then ?_
              refine post_ret (rs := [.tmp 4, .tmp 5]) rfl (List.Perm.refl _) (.cons (.tmp rfl) (.cons (.tmp rfl) .nil)) (List.nil_sublist _) ?_
              exact ⟨.inl ⟨by unfold apartE; rw [hgood, h25', ← hL, ← hN]; show L.any (apBad N) = true; exact List.any_eq_true.2 ⟨L[k2], List.getElem_mem hlt2, by unfold apBad; rw [hany]; simp [h59]⟩, rfl⟩, rfl⟩
            · have h59' : shE N L[k2] = 0 := Classical.not_not.1 h59
              rw [if_pos h59'] at hw
              have hbd : apBad N L[k2] = false := by unfold apBad; rw [h59']; simp
              rw [hw, ← hap, mid_set _ L k2 hlt2] at hrow1
              refine op_v (v_cmpfA rfl rfl rfl) rfl ?_
              refine ops_nil ?_
              refine post_next ?_
              refine code_cond_f rfl ?_
              refine code_skip ?_
              refine post_out ?_
              refine post_next ?_
              refine code_region ?_
              refine op_v (v_addb rfl rfl rfl (by omega)) rfl ?_
              refine op_v (v_move rfl) rfl ?_
              refine ops_nil ?_
              refine PostJ.view (View.drop Del.here) ?_
              refine post_again (L.length - (k2 + 1)) [(1, .slice da d.length dc), (6, .slice a16 (sidesL d).length c16), (8, .int .i64 N), (38, .slice a16 (sidesL d).length c16), (39, .int .i64 (sidesL d).length), (40, .int .i64 (k2 + 1 : Nat))] (by omega) ⟨k2 + 1, ys1, rfl, hlt2, rfl, Imm.leA, rfl, hrow1, fun j hj hjk => ?_⟩ ⟨rfl, rfl, rfl, rfl, rfl, rfl, trivial⟩
              rcases Nat.lt_or_ge j k2 with q | q
              · exact hok j hj q
              · have e : j = k2 := by omega
                subst e; exact hbd
        · have hge2 : k2 = L.length := by have h := hc2; simp at h; omega
          refine code_exit ?_
          refine post_exit_then ?_
          refine post_exit_then ?_
          refine post_exit ?_
          refine post_next ?_
          refine code_seq ?_
          refine code_region ?_
          refine OpsJ.freezeRow Del.here ?_
          rintro I61 a61 c61 hI61 hq hc61 hl61 hcells61
          cases hq
          rw [hge2, List.take_length, List.drop_length, List.append_nil] at hys
          have hml : (L.map (apT N)).length = (sidesL d).length := by rw [List.length_map, hLl]
          have hrs := (hys.mono hI61).repS hcells61 (by rw [hml]; exact hc61) (by rw [hml, hl2]; omega)
          rw [hml] at hrs
          refine op_v (v_move rfl) rfl ?_
          refine op_v (v_move rfl) rfl ?_
          refine op_call pl53 rfl rfl ((Cof_does (hb.mono Imm.leA) hrs (by rw [hml]; exact hl2))) Parts.none ?_
          rintro v63 I63 _ hI63 ⟨hr63, rfl⟩
          have hl63 : (ofL d (L.map (apT N))).length = d.length := ofL_len d _ (by rw [hml]; exact hl2)
          obtain ⟨a63, c63, hsh⟩ := RepE.shape hr63
          rw [hl63] at hsh
          subst hsh
          refine op_v (v_assign rfl) rfl ?_
          refine op_v (v_assign rfl) rfl ?_
          refine ops_nil ?_
          refine post_next ?_
          refine code_ret ?_
          refine post_ret (rs := [.tmp 4, .tmp 5]) rfl (List.Perm.refl _) (.cons (.tmp rfl) (.cons (.tmp rfl) .nil)) (List.nil_sublist _) ?_
          exact ⟨.inr ⟨by unfold apartE; rw [hgood, h25', ← hL, ← hN]; show L.any (apBad N) = false; exact List.any_eq_false.2 fun t ht => by obtain ⟨j, hj, rfl⟩ := List.getElem_of_mem ht; rw [hok j hj (by omega)]; simp, a63, c63, rfl, by unfold apartC; rw [← hL, ← hN]; exact hr63⟩, rfl⟩
end Go.Proofs.YtdbadicpbmndbaaGreat
