/- Own texts, one behind the other: rules of a small program logic, walks through the program's functions, plain facts. No condition. -/
import Derived.Test.YtdbadicpbmndbaaGreatZ3
/- Walks: whether a literal is one of a signature; how two stand. -/
set_option linter.unusedVariables false
set_option linter.unusedSimpArgs false
set_option linter.unnecessarySimpa false
/- short -/
namespace Go.Proofs.YtdbadicpbmndbaaGreat
open Go Lg

def trL (gs : List Sy) (t : T) : Bool := decide (0 ≤ t.head) && trG gs t.head
def sortL (gs : List Sy) (x : Li) : Bool := (trL gs x.l && decide (x.r.head ≠ 0)) || (!trL gs x.l && trL gs x.r)
def litG (gs : List Sy) (x : Li) : Int := if termG gs x.l ≠ 0 then termG gs x.l else if termG gs x.r ≠ 0 then termG gs x.r else if sortL gs x = true then 10 else 0
theorem litG_ok {gs : List Sy} {x : Li} (h : litG gs x = 0) : OkG gs x.l ∧ OkG gs x.r := by
  unfold litG at h
  by_cases h1 : termG gs x.l = 0
  · by_cases h2 : termG gs x.r = 0
    · exact ⟨termG_ok.1 h1, termG_ok.1 h2⟩
    · rw [if_neg (by omega), if_pos h2] at h; exact absurd h h2
  · rw [if_pos h1] at h; exact absurd h h1
theorem left_does {I : Imm} {vg : Value} {gs : List Sy} {x : Li} {la ra : Option Addr} {lc rc : Nat} (hg : RepG I vg gs) (hl : RepT I (.agg #[.int .i64 x.l.head, .slice la x.l.args.length lc]) x.l) (h1 : x.l.size ≤ 1000000000) :
    Does Tryz.prog 112 [.agg #[vg, .bool x.neg, .int .i64 x.l.head, .slice la x.l.args.length lc, .int .i64 x.r.head, .slice ra x.r.args.length rc]] I [] (fun v _ δ' => v = .int .i64 (termG gs x.l) ∧ δ' = []) := by
  obtain ⟨ga, gc, rfl⟩ := hg.shape
  refine Does.intro Tryz.func112 rfl Tryz.ntmps112 rfl fun w0 => ?_
  refine code_seq ?_
  refine code_region ?_
  refine o_box rfl rfl rfl (fun b1 => ?_)
  refine op_v (v_assign rfl) rfl ?_
  refine ops_nil ?_
  refine post_next ?_
  refine code_seq ?_
  refine code_region ?_
  refine op_v (v_fieldB 0 Tryz.underlying124 rfl rfl fz22 rfl) rfl ?_
  refine op_v (v_loadA ty22 rfl rfl) rfl ?_
  refine op_v (v_fieldB 1 Tryz.underlying124 rfl rfl fz59 rfl) rfl ?_
  refine op_v (v_fieldB 1 Tryz.underlying59 rfl rfl fz48 rfl) rfl ?_
  refine op_v (v_loadA ty48 rfl rfl) rfl ?_
  refine op_call pl137 rfl rfl ((GTerm_does (hg.mono Imm.leA) (hl.mono Imm.leA) h1)) Parts.none ?_
  rintro _ I8 _ hI8 ⟨rfl, rfl⟩
  refine op_v (v_assign rfl) rfl ?_
  refine ops_nil ?_
  refine post_next ?_
  refine code_ret ?_
  refine post_ret (rs := [.tmp 2]) rfl (List.Perm.refl _) (.cons (.tmp rfl) .nil) (List.nil_sublist _) ?_
  exact ⟨rfl, rfl⟩
theorem right_does {I : Imm} {vg : Value} {gs : List Sy} {x : Li} {la ra : Option Addr} {lc rc : Nat} (hg : RepG I vg gs) (hl : RepT I (.agg #[.int .i64 x.r.head, .slice ra x.r.args.length rc]) x.r) (h1 : x.r.size ≤ 1000000000) :
    Does Tryz.prog 113 [.agg #[vg, .bool x.neg, .int .i64 x.l.head, .slice la x.l.args.length lc, .int .i64 x.r.head, .slice ra x.r.args.length rc]] I [] (fun v _ δ' => v = .int .i64 (termG gs x.r) ∧ δ' = []) := by
  obtain ⟨ga, gc, rfl⟩ := hg.shape
  refine Does.intro Tryz.func113 rfl Tryz.ntmps113 rfl fun w0 => ?_
  refine code_seq ?_
  refine code_region ?_
  refine o_box rfl rfl rfl (fun b1 => ?_)
  refine op_v (v_assign rfl) rfl ?_
  refine ops_nil ?_
  refine post_next ?_
  refine code_seq ?_
  refine code_region ?_
  refine op_v (v_fieldB 0 Tryz.underlying124 rfl rfl fz22 rfl) rfl ?_
  refine op_v (v_loadA ty22 rfl rfl) rfl ?_
  refine op_v (v_fieldB 1 Tryz.underlying124 rfl rfl fz59 rfl) rfl ?_
  refine op_v (v_fieldB 3 Tryz.underlying59 rfl rfl fz48 rfl) rfl ?_
  refine op_v (v_loadA ty48 rfl rfl) rfl ?_
  refine op_call pl137 rfl rfl ((GTerm_does (hg.mono Imm.leA) (hl.mono Imm.leA) h1)) Parts.none ?_
  rintro _ I8 _ hI8 ⟨rfl, rfl⟩
  refine op_v (v_assign rfl) rfl ?_
  refine ops_nil ?_
  refine post_next ?_
  refine code_ret ?_
  refine post_ret (rs := [.tmp 2]) rfl (List.Perm.refl _) (.cons (.tmp rfl) .nil) (List.nil_sublist _) ?_
  exact ⟨rfl, rfl⟩
theorem truth_does {I : Imm} {vg v : Value} {gs : List Sy} {t : T} {cs : List Value} (hg : RepG I vg gs) (hv : RepT I v t) (h5 : ∃ a b c d e, cs = [a, b, c, d, e]) (hh : 0 ≤ t.head → t.head < gs.length) :
    Does Tryz.prog 138 [.agg (vg :: cs).toArray, v] I [] (fun v _ δ' => v = .bool (trL gs t) ∧ δ' = []) := by
  obtain ⟨a, b, c, d, e, rfl⟩ := h5
  obtain ⟨ga, gc, rfl⟩ := hg.shape
  obtain ⟨_, hgc, hgb, hgat, hgok⟩ := hg.open
  obtain ⟨a0, c0, rfl, hr0⟩ := hv.shape
  refine Does.intro Tryz.func138 rfl Tryz.ntmps138 rfl fun w0 => ?_
  refine code_seq ?_
  refine code_region ?_
  refine o_box rfl rfl rfl (fun b2 => ?_)
  refine o_box rfl rfl rfl (fun b3 => ?_)
  refine op_v (v_assign rfl) rfl ?_
  refine ops_nil ?_
  refine post_next ?_
  refine code_seq ?_
  refine code_region ?_
  refine op_v (v_fieldB 0 Tryz.underlying48 rfl rfl fz3 rfl) rfl ?_
  refine op_v (v_loadA ty3 rfl rfl) rfl ?_
  by_cases h7 : 0 ≤ t.head
  · have hl0 := hh h7
    have hlt0 : t.head.toNat < gs.length := by omega
    have hs0 := (hgat _ hlt0).isSome
    refine op_v (v_cmptA rfl rfl rfl) rfl ?_
    refine op_v (v_move rfl) rfl ?_
    first
      | (refine op_want rfl rfl ?_
         refine op_v (v_fieldB 0 Tryz.underlying124 rfl rfl fz22 rfl) rfl ?_)
      | (refine op_skip rfl rfl (by simp [undef]) rfl ?_)
    refine op_want rfl rfl ?_
    refine op_v (v_loadA ty22 rfl rfl) rfl ?_
    first
      | (refine op_want rfl rfl ?_
         refine op_v (v_fieldB 0 Tryz.underlying48 rfl rfl fz3 rfl) rfl ?_)
      | (refine op_skip rfl rfl (by simp [undef]) rfl ?_)
    refine op_want rfl rfl ?_
    refine op_v (v_loadA ty3 rfl rfl) rfl ?_
    refine op_want rfl rfl ?_
    refine op_v (v_indexIA Tryz.underlying22 sz85 rfl rfl) rfl ?_
    first
      | (refine op_want rfl rfl ?_
         refine op_v (v_fieldI 3 Tryz.underlying85 rfl rfl fz4 rfl (by assumption)) rfl ?_)
      | (refine op_skip rfl rfl (by simp [undef]) rfl ?_)
    refine op_want rfl rfl ?_
    refine op_v (v_loadI ty4 (hgat _ hlt0) rfl rfl rfl) rfl ?_
    refine op_v (v_pickt rfl rfl) rfl ?_
    refine op_v (v_assign rfl) rfl ?_
    refine ops_nil ?_
    refine post_next ?_
    refine code_ret ?_
    refine post_ret (rs := [.tmp 4]) rfl (List.Perm.refl _) (.cons (.tmp rfl) .nil) (List.nil_sublist _) ?_
    exact ⟨by simp [outV, trL, h7, trG_at h7 hl0], rfl⟩
  · refine op_v (v_cmpfA rfl rfl rfl) rfl ?_
    refine op_v (v_move rfl) rfl ?_
    refine op_skip rfl rfl (by simp [undef]) rfl ?_
    refine op_skip rfl rfl (by simp [undef]) rfl ?_
    refine op_skip rfl rfl (by simp [undef]) rfl ?_
    refine op_skip rfl rfl (by simp [undef]) rfl ?_
    refine op_skip rfl rfl (by simp [undef]) rfl ?_
    refine op_skip rfl rfl (by simp [undef]) rfl ?_
    refine op_skip rfl rfl (by simp [undef]) rfl ?_
    refine op_v (v_pickf rfl rfl) rfl ?_
    refine op_v (v_assign rfl) rfl ?_
    refine ops_nil ?_
    refine post_next ?_
    refine code_ret ?_
    refine post_ret (rs := [.tmp 4]) rfl (List.Perm.refl _) (.cons (.tmp rfl) .nil) (List.nil_sublist _) ?_
    exact ⟨by simp [outV, trL, h7], rfl⟩
theorem sorts_does {I : Imm} {vg : Value} {gs : List Sy} {x : Li} {la ra : Option Addr} {lc rc : Nat} (hg : RepG I vg gs) (hl : RepT I (.agg #[.int .i64 x.l.head, .slice la x.l.args.length lc]) x.l) (hr : RepT I (.agg #[.int .i64 x.r.head, .slice ra x.r.args.length rc]) x.r) (h1 : 0 ≤ x.l.head → x.l.head < gs.length) (h2 : 0 ≤ x.r.head → x.r.head < gs.length) :
    Does Tryz.prog 114 [.agg #[vg, .bool x.neg, .int .i64 x.l.head, .slice la x.l.args.length lc, .int .i64 x.r.head, .slice ra x.r.args.length rc]] I [] (fun v _ δ' => v = .int .i64 (if sortL gs x = true then 10 else 0) ∧ δ' = []) := by
  obtain ⟨ga, gc, rfl⟩ := hg.shape
  refine Does.intro Tryz.func114 rfl Tryz.ntmps114 rfl fun w0 => ?_
  refine code_seq ?_
  refine code_region ?_
  refine o_box rfl rfl rfl (fun b1 => ?_)
  refine op_v (v_assign rfl) rfl ?_
  refine ops_nil ?_
  refine post_next ?_
  refine code_seq ?_
  refine code_region ?_
  refine op_v (v_load6 ty124 rfl rfl) rfl ?_
  refine op_v (v_fieldB 1 Tryz.underlying124 rfl rfl fz59 rfl) rfl ?_
  refine op_v (v_fieldB 1 Tryz.underlying59 rfl rfl fz48 rfl) rfl ?_
  refine op_v (v_loadA ty48 rfl rfl) rfl ?_
  refine op_call pl138 rfl rfl ((truth_does (cs := liC x la lc ra rc) (hg.mono Imm.leA) (hl.mono Imm.leA) ⟨_, _, _, _, _, rfl⟩ h1)) Parts.none ?_
  rintro _ I8 _ hI8 ⟨rfl, rfl⟩
  refine op_v (v_assign rfl) rfl ?_
  refine ops_nil ?_
  refine post_next ?_
  refine code_seq ?_
  refine code_seq ?_
  refine code_region ?_
  by_cases e1 : trL gs x.l = true
  · rw [e1]
    refine op_v (v_move rfl) rfl ?_
    refine op_v (v_move rfl) rfl ?_
    first
      | (refine op_want rfl rfl ?_
         refine op_v (v_fieldB 1 Tryz.underlying124 rfl rfl fz59 rfl) rfl ?_)
      | (refine op_skip rfl rfl (by simp [undef]) rfl ?_)
    first
      | (refine op_want rfl rfl ?_
         refine op_v (v_fieldB 3 Tryz.underlying59 rfl rfl fz48 rfl) rfl ?_)
      | (refine op_skip rfl rfl (by simp [undef]) rfl ?_)
    first
      | (refine op_want rfl rfl ?_
         refine op_v (v_fieldB 0 Tryz.underlying48 rfl rfl fz3 rfl) rfl ?_)
      | (refine op_skip rfl rfl (by simp [undef]) rfl ?_)
    refine op_want rfl rfl ?_
    refine op_v (v_loadA ty3 rfl rfl) rfl ?_
    by_cases e2 : x.r.head ≠ 0
    · first
        | (refine op_want rfl rfl ?_
           refine op_v (v_cmptA rfl rfl rfl) rfl ?_)
        | (refine op_skip rfl rfl (by simp [undef]) rfl ?_)
      refine op_v (v_pickt rfl rfl) rfl ?_
      refine op_v (v_move rfl) rfl ?_
      refine op_skip rfl rfl (by simp [undef]) rfl ?_
      refine op_skip rfl rfl (by simp [undef]) rfl ?_
      refine op_skip rfl rfl (by simp [undef]) rfl ?_
      refine op_skip rfl rfl (by simp [undef]) rfl ?_
      refine op_skip rfl rfl (by simp [undef]) rfl ?_
      refine op_skip rfl rfl (by simp [undef]) rfl ?_
      refine op_skip rfl rfl (by simp [undef]) rfl ?_
      refine op_skip rfl rfl (by simp [undef]) rfl ?_
      refine op_skip rfl rfl (by simp [undef]) rfl ?_
      refine op_v (v_pickt rfl rfl) rfl ?_
      refine ops_nil ?_
      refine post_next ?_
      refine code_cond_t rfl ?_
      refine code_seq ?_
      refine code_region ?_
      refine op_v (v_assign rfl) rfl ?_
      refine ops_nil ?_
      refine post_next ?_
      refine code_ret ?_
      refine post_ret_then ?_
      refine post_ret (rs := [.tmp 2]) rfl (List.Perm.refl _) (.cons (.tmp rfl) .nil) (List.nil_sublist _) ?_
      exact ⟨by rw [if_pos (by simp [sortL, e1, e2])]; rfl, rfl⟩
    · first
        | (refine op_want rfl rfl ?_
           refine op_v (v_cmpfA rfl rfl rfl) rfl ?_)
        | (refine op_skip rfl rfl (by simp [undef]) rfl ?_)
      refine op_v (v_pickt rfl rfl) rfl ?_
      refine op_v (v_move rfl) rfl ?_
      refine op_want rfl rfl ?_
      refine op_v (v_move rfl) rfl ?_
      refine op_want rfl rfl ?_
      refine op_v (v_not rfl) rfl ?_
      refine op_want rfl rfl ?_
      refine op_v (v_move rfl) rfl ?_
      refine op_skip rfl rfl (by simp [undef]) rfl ?_
      refine op_skip rfl rfl (by simp [undef]) rfl ?_
      refine op_skip rfl rfl (by simp [undef]) rfl ?_
      refine op_skip rfl rfl (by simp [undef]) rfl ?_
      refine op_skip rfl rfl (by simp [undef]) rfl ?_
      first
        | (refine op_want rfl rfl ?_
           refine op_v (v_pickf rfl rfl) rfl ?_)
        | (refine op_skip rfl rfl (by simp [undef]) rfl ?_)
      refine op_v (v_pickf rfl rfl) rfl ?_
      refine ops_nil ?_
      refine post_next ?_
      refine code_cond_f rfl ?_
      refine code_skip ?_
      refine post_next ?_
      refine code_seq ?_
      refine code_region ?_
      refine op_v (v_assign rfl) rfl ?_
      refine ops_nil ?_
      refine post_next ?_
      refine code_ret ?_
      refine post_ret (rs := [.tmp 2]) rfl (List.Perm.refl _) (.cons (.tmp rfl) .nil) (List.nil_sublist _) ?_
      exact ⟨by rw [if_neg (by simp [sortL, e1]; omega)]; rfl, rfl⟩
  · have e1' : trL gs x.l = false := by simpa using e1
    rw [e1']
    refine op_v (v_move rfl) rfl ?_
    refine op_v (v_move rfl) rfl ?_
    refine op_skip rfl rfl (by simp [undef]) rfl ?_
    refine op_skip rfl rfl (by simp [undef]) rfl ?_
    refine op_skip rfl rfl (by simp [undef]) rfl ?_
    refine op_skip rfl rfl (by simp [undef]) rfl ?_
    refine op_skip rfl rfl (by simp [undef]) rfl ?_
    refine op_v (v_pickf rfl rfl) rfl ?_
    refine op_v (v_move rfl) rfl ?_
    refine op_want rfl rfl ?_
    refine op_v (v_move rfl) rfl ?_
    refine op_want rfl rfl ?_
    refine op_v (v_not rfl) rfl ?_
    refine op_want rfl rfl ?_
    refine op_v (v_move rfl) rfl ?_
    refine op_want rfl rfl ?_
    refine op_v (v_load6 ty124 rfl rfl) rfl ?_
    first
      | (refine op_want rfl rfl ?_
         refine op_v (v_fieldB 1 Tryz.underlying124 rfl rfl fz59 rfl) rfl ?_)
      | (refine op_skip rfl rfl (by simp [undef]) rfl ?_)
    first
      | (refine op_want rfl rfl ?_
         refine op_v (v_fieldB 3 Tryz.underlying59 rfl rfl fz48 rfl) rfl ?_)
      | (refine op_skip rfl rfl (by simp [undef]) rfl ?_)
    refine op_want rfl rfl ?_
    refine op_v (v_loadA ty48 rfl rfl) rfl ?_
    refine op_want rfl rfl ?_
    refine op_call pl138 rfl rfl ((truth_does (cs := liC x la lc ra rc) (hg.mono Imm.leA) (hr.mono Imm.leA) ⟨_, _, _, _, _, rfl⟩ h2)) Parts.none ?_
    rintro _ I25 _ hI25 ⟨rfl, rfl⟩
    by_cases e3 : trL gs x.r = true
    · rw [e3]
      first
        | (refine op_want rfl rfl ?_
           refine op_v (v_pickt rfl rfl) rfl ?_)
        | (refine op_skip rfl rfl (by simp [undef]) rfl ?_)
      refine op_v (v_pickf rfl rfl) rfl ?_
      refine ops_nil ?_
      refine post_next ?_
      refine code_cond_t rfl ?_
      refine code_seq ?_
      refine code_region ?_
      refine op_v (v_assign rfl) rfl ?_
      refine ops_nil ?_
      refine post_next ?_
      refine code_ret ?_
      refine post_ret_then ?_
      refine post_ret (rs := [.tmp 2]) rfl (List.Perm.refl _) (.cons (.tmp rfl) .nil) (List.nil_sublist _) ?_
      exact ⟨by rw [if_pos (by simp [sortL, e1', e3])]; rfl, rfl⟩
    · have e3' : trL gs x.r = false := by simpa using e3
      rw [e3']
      first
        | (refine op_want rfl rfl ?_
           refine op_v (v_pickt rfl rfl) rfl ?_)
        | (refine op_skip rfl rfl (by simp [undef]) rfl ?_)
      refine op_v (v_pickf rfl rfl) rfl ?_
      refine ops_nil ?_
      refine post_next ?_
      refine code_cond_f rfl ?_
      refine code_skip ?_
      refine post_next ?_
      refine code_seq ?_
      refine code_region ?_
      refine op_v (v_assign rfl) rfl ?_
      refine ops_nil ?_
      refine post_next ?_
      refine code_ret ?_
      refine post_ret (rs := [.tmp 2]) rfl (List.Perm.refl _) (.cons (.tmp rfl) .nil) (List.nil_sublist _) ?_
      exact ⟨by rw [if_neg (by simp [sortL, e1', e3'])]; rfl, rfl⟩
theorem first_does {I : Imm} {A : Option Addr} {vg : Value} {x : Li} {la ra : Option Addr} {lc rc : Nat} {fs : List Value} {es : List Int} (hcells : Cells I A fs) (hlen : fs.length = es.length) (hl3 : fs.length ≤ 1000) (hg1 : vg.oneCell' = true)
    (hf : ∀ J i (h : i < fs.length), I.le J → (∀ j (hj : j < es.length), j < i → es[j] = 0) → FDoes Tryz.prog fs[i] [.agg #[vg, .bool x.neg, .int .i64 x.l.head, .slice la x.l.args.length lc, .int .i64 x.r.head, .slice ra x.r.args.length rc]] J [] (fun v _ δ' => v = .int .i64 (es[i]'(by omega)) ∧ δ' = [])) :
    Does Tryz.prog 111 [.agg #[vg, .bool x.neg, .int .i64 x.l.head, .slice la x.l.args.length lc, .int .i64 x.r.head, .slice ra x.r.args.length rc], .slice A fs.length fs.length] I [] (fun v _ δ' => v = .int .i64 (orI es) ∧ δ' = []) := by
  have hat : ∀ i (h : i < fs.length), At I A (i * 1) [fs[i]] := fun i h => hcells.at _ fun j u hj => by
    rcases j with _ | j
    · simp at hj; subst hj; simp [h]
    · simp at hj
  refine Does.intro Tryz.func111 rfl Tryz.ntmps111 rfl fun w0 => ?_
  refine code_seq ?_
  refine code_region ?_
  refine o_box rfl rfl rfl (fun b2 => ?_)
  refine op_v (v_assign rfl) rfl ?_
  refine ops_nil ?_
  refine post_next ?_
  refine code_seq ?_
  refine code_seq ?_
  refine code_region ?_
  refine op_v (v_move rfl) rfl ?_
  refine op_v (v_len Tryz.underlying145 rfl) rfl ?_
  refine op_v (v_move rfl) rfl ?_
  refine ops_nil ?_
  refine post_next ?_
  refine code_block ?_
  refine code_loop (fun m σ' I' δ' => ∃ k : Nat, m = fs.length - k ∧ k ≤ fs.length ∧ σ' = [(2, .pointer (some ⟨b2, 0, none⟩)), (8, .slice A fs.length fs.length), (9, .int .i64 fs.length), (10, .int .i64 k)] ∧ I.le I' ∧ δ' = [.box b2 124 [vg, .bool x.neg, .int .i64 x.l.head, .slice la x.l.args.length lc, .int .i64 x.r.head, .slice ra x.r.args.length rc]] ∧ orI es = orI (es.drop k) ∧ ∀ j (hj : j < es.length), j < k → es[j] = 0) fs.length [(2, .pointer (some ⟨b2, 0, none⟩)), (8, .slice A fs.length fs.length), (9, .int .i64 fs.length), (10, .int .i64 (0 : Nat))] ⟨0, rfl, Nat.zero_le _, rfl, Imm.le_refl _, rfl, rfl, fun j _ h => by omega⟩ ⟨rfl, rfl, rfl, rfl, trivial⟩ ?_
  rintro m _ I0 _ ⟨k, rfl, hk, rfl, hI0, rfl, hp, hz⟩
  refine code_seq ?_
  refine code_region ?_
  refine op_v (v_cmp rfl rfl rfl) rfl ?_
  refine ops_nil ?_
  refine post_next ?_
  refine code_seq ?_
  refine code_cond rfl (fun hc0 => ?_) (fun hc0 => ?_)
  · have hlt : k < fs.length := by simpa using hc0
    have hlt2 : k < es.length := by omega
    have hs1 := (hat k hlt).isSome
    rw [List.drop_eq_getElem_cons hlt2] at hp
    refine code_skip ?_
    refine post_next ?_
    refine code_seq ?_
    refine code_block ?_
    refine code_seq ?_
    refine code_region ?_
    refine op_v (v_indexA Tryz.underlying145 sz125 rfl rfl) rfl ?_
    refine op_v (v_loadI0 ty125 ((hat k hlt).mono hI0) rfl rfl rfl) rfl ?_
    refine op_v (v_assign rfl) rfl ?_
    refine ops_nil ?_
    refine post_next ?_
    refine code_seq ?_
    refine code_region ?_
    refine op_v (v_move rfl) rfl ?_
    refine op_v (v_load6 ty124 rfl rfl) rfl ?_
    refine op_fcall rfl rfl rfl ((hf _ k hlt Imm.leA hz)) Parts.none ?_
    rintro _ I16 _ hI16 ⟨rfl, rfl⟩
    refine op_v (v_assign rfl) rfl ?_
    refine ops_nil ?_
    refine post_next ?_
    refine code_seq ?_
    refine code_region ?_
    refine op_v (v_move rfl) rfl ?_
    refine op_v (v_cmp rfl rfl rfl) rfl ?_
    refine ops_nil ?_
    refine post_next ?_
    refine code_cond rfl (fun hc1 => ?_) (fun hc1 => ?_)
    · have hne : es[k] ≠ 0 := by simpa using hc1
      refine code_seq ?_
      refine code_region ?_
      refine op_v (v_move rfl) rfl ?_
      refine op_v (v_assign rfl) rfl ?_
      refine ops_nil ?_
      refine post_next ?_
      refine code_ret ?_
      refine post_ret_block ?_
      refine post_ret_then ?_
      refine post_ret_then ?_
      refine post_ret_block ?_
      refine post_ret_then ?_
      refine post_ret (rs := [.tmp 4]) rfl (List.Perm.refl _) (.cons (.tmp rfl) .nil) (List.nil_sublist _) ?_
      exact ⟨by rw [hp]; simp [outV, orI, hne], rfl⟩
    · have heq : es[k] = 0 := by simpa using hc1
      refine code_skip ?_
      refine post_out ?_
      refine post_next ?_
      refine code_region ?_
      refine op_v (v_addb rfl rfl rfl (by omega)) rfl ?_
      refine op_v (v_move rfl) rfl ?_
      refine ops_nil ?_
      refine post_again (fs.length - (k + 1)) [(2, .pointer (some ⟨b2, 0, none⟩)), (8, .slice A fs.length fs.length), (9, .int .i64 fs.length), (10, .int .i64 (k + 1 : Nat))] (by omega) ⟨k + 1, rfl, hlt, rfl, Imm.leA, rfl, by rw [hp]; simp [orI, heq], fun j hj hjk => ?_⟩ ⟨rfl, rfl, rfl, rfl, trivial⟩
      rcases Nat.lt_or_ge j k with hq | hq
      · exact hz j hj hq
      have hq2 : j = k := by omega
      subst hq2
      exact heq
  · have hge : k = es.length := by simp at hc0; omega
    rw [hge, List.drop_length] at hp
    refine code_exit ?_
    refine post_exit_then ?_
    refine post_exit_then ?_
    refine post_exit ?_
    refine post_next ?_
    refine code_seq ?_
    refine code_region ?_
    refine op_v (v_assign rfl) rfl ?_
    refine ops_nil ?_
    refine post_next ?_
    refine code_ret ?_
    refine post_ret (rs := [.tmp 4]) rfl (List.Perm.refl _) (.cons (.tmp rfl) .nil) (List.nil_sublist _) ?_
    exact ⟨by rw [hp]; simp [outV, orI], rfl⟩

theorem LCheck_does {I : Imm} {vg va : Value} {gs : List Sy} {x : Li} (hg : RepG I vg gs) (ha : RepL I va x) (h1 : x.l.size ≤ 1000000000) (h2 : x.r.size ≤ 1000000000) :
    Does Tryz.prog 68 [vg, va] I [] (fun v _ δ' => v = .int .i64 (litG gs x) ∧ δ' = []) := by
  obtain ⟨la, lc, ra, rc, rfl, hl, hr⟩ := ha
  obtain ⟨ga, gc, rfl⟩ := hg.shape
  have hor : orI [termG gs x.l, termG gs x.r, if sortL gs x = true then 10 else 0] = litG gs x := by
    unfold litG; simp only [orI]
    split <;> (try rfl)
    split <;> (try rfl)
    split <;> rfl
  refine Does.intro Tryz.func68 rfl Tryz.ntmps68 rfl fun w0 => ?_
  refine code_seq ?_
  refine code_region ?_
  refine o_box rfl rfl rfl (fun b3 => ?_)
  refine op_v (v_assign rfl) rfl ?_
  refine ops_nil ?_
  refine post_next ?_
  refine code_seq ?_
  refine code_region ?_
  refine op_v (v_move rfl) rfl ?_
  refine op_v (v_loadA ty59 rfl rfl) rfl ?_
  refine op_v (v_build (cs := [.slice ga gs.length gc, .bool x.neg, .int .i64 x.l.head, .slice la x.l.args.length lc, .int .i64 x.r.head, .slice ra x.r.args.length rc]) bl124 rfl rfl) rfl ?_
  refine o_buildSlice (xs := [(Go.Operand.func 112), (Go.Operand.func 113), (Go.Operand.func 114)]) Tryz.underlying145 bs125 rfl rfl rfl rfl rfl (fun b8 => ?_)
  refine OpsJ.freezeRow Del.here ?_
  rintro I8 a8 c8 hI8 hq hc8 hl8 hcells8
  cases hq
  have hc3 : Cells I8 _ [.func (.func 112) #[] #[], .func (.func 113) #[] #[], .func (.func 114) #[] #[]] := hcells8
  have hF0 : ∀ J, I8.le J → FDoes Tryz.prog (.func (.func 112) #[] #[]) [.agg #[.slice ga gs.length gc, .bool x.neg, .int .i64 x.l.head, .slice la x.l.args.length lc, .int .i64 x.r.head, .slice ra x.r.args.length rc]] J [] (fun v _ δ' => v = .int .i64 (termG gs x.l) ∧ δ' = []) := fun J hJ => FDoes.ofFunc (caps := []) (show Plainf Tryz.prog 112 = true by kernel_rfl) (left_does (x := x) (hg.mono Imm.leA) (hl.mono Imm.leA) h1)
  have hF1 : ∀ J, I8.le J → FDoes Tryz.prog (.func (.func 113) #[] #[]) [.agg #[.slice ga gs.length gc, .bool x.neg, .int .i64 x.l.head, .slice la x.l.args.length lc, .int .i64 x.r.head, .slice ra x.r.args.length rc]] J [] (fun v _ δ' => v = .int .i64 (termG gs x.r) ∧ δ' = []) := fun J hJ => FDoes.ofFunc (caps := []) (show Plainf Tryz.prog 113 = true by kernel_rfl) (right_does (x := x) (hg.mono Imm.leA) (hr.mono Imm.leA) h2)
  have hF2 : ∀ J, I8.le J → OkG gs x.l → OkG gs x.r → FDoes Tryz.prog (.func (.func 114) #[] #[]) [.agg #[.slice ga gs.length gc, .bool x.neg, .int .i64 x.l.head, .slice la x.l.args.length lc, .int .i64 x.r.head, .slice ra x.r.args.length rc]] J [] (fun v _ δ' => v = .int .i64 (if sortL gs x = true then 10 else 0) ∧ δ' = []) := fun J hJ z1 z2 => by
    have q1 := z1.heads (true, x.l) (by rw [visT_eq]; exact List.mem_cons_self ..)
    have q2 := z2.heads (true, x.r) (by rw [visT_eq]; exact List.mem_cons_self ..)
    simp only at q1 q2
    exact FDoes.ofFunc (caps := []) (show Plainf Tryz.prog 114 = true by kernel_rfl) (sorts_does (x := x) (hg.mono Imm.leA) (hl.mono Imm.leA) (hr.mono Imm.leA) (by omega) (by omega))
  have hF : ∀ J i (h : i < [Value.func (.func 112) #[] #[], Value.func (.func 113) #[] #[], Value.func (.func 114) #[] #[]].length), I8.le J → (∀ j (hj : j < [termG gs x.l, termG gs x.r, if sortL gs x = true then 10 else 0].length), j < i → [termG gs x.l, termG gs x.r, if sortL gs x = true then 10 else 0][j] = 0) → FDoes Tryz.prog [Value.func (.func 112) #[] #[], Value.func (.func 113) #[] #[], Value.func (.func 114) #[] #[]][i] [.agg #[.slice ga gs.length gc, .bool x.neg, .int .i64 x.l.head, .slice la x.l.args.length lc, .int .i64 x.r.head, .slice ra x.r.args.length rc]] J [] (fun v _ δ' => v = .int .i64 ([termG gs x.l, termG gs x.r, if sortL gs x = true then 10 else 0][i]'(by simpa using h)) ∧ δ' = []) := fun J i hi hJ hz => by
    rcases i with _ | _ | _ | i
    · exact hF0 J hJ
    · exact hF1 J hJ
    · exact hF2 J hJ (termG_ok.1 (hz 0 (by simp) (by omega))) (termG_ok.1 (hz 1 (by simp) (by omega)))
    · simp at hi; omega
  have hfd := first_does (A := some ⟨b8, 0, none⟩) (x := x) (vg := .slice ga gs.length gc) (la := la) (ra := ra) (lc := lc) (rc := rc) (es := [termG gs x.l, termG gs x.r, if sortL gs x = true then 10 else 0]) hc3 (by simp) (by simp) rfl hF
  rw [hor] at hfd
  refine op_call pl111 rfl rfl (hfd) Parts.none ?_
  rintro _ I9 _ hI9 ⟨rfl, rfl⟩
  refine op_v (v_assign rfl) rfl ?_
  refine ops_nil ?_
  refine post_next ?_
  refine code_ret ?_
  refine post_ret (rs := [.tmp 4]) rfl (List.Perm.refl _) (.cons (.tmp rfl) .nil) (List.nil_sublist _) ?_
  exact ⟨rfl, rfl⟩
end Go.Proofs.YtdbadicpbmndbaaGreat
/- Walks: a clause's sides, what is left of it, whether it always holds, whether it is right, its variables. -/
set_option linter.unusedVariables false
set_option linter.unusedSimpArgs false
set_option linter.unnecessarySimpa false
/- short -/
namespace Go.Proofs.YtdbadicpbmndbaaGreat
open Go Lg

/-- sides of no great size -/
def SmC (c : List Li) : Prop := ∀ x ∈ c, x.l.size ≤ 1000000000 ∧ x.r.size ≤ 1000000000
theorem FewC.sm {c : List Li} (h : FewC c) : SmC c := fun x hx => by have := h.sides x hx; omega
theorem SmC.at {c : List Li} (h : SmC c) {k : Nat} (hk : k < c.length) : c[k].l.size ≤ 1000000000 ∧ c[k].r.size ≤ 1000000000 := h _ (List.getElem_mem hk)
theorem SmC.sub {c d : List Li} (h : SmC c) (hd : ∀ x ∈ d, x ∈ c) : SmC d := fun x hx => h x (hd x hx)
def chkLs (gs : List Sy) : List Li → Int
  | [] => 0
  | x :: r => if litG gs x ≠ 0 then litG gs x else chkLs gs r
def chkC (gs : List Sy) (c : List Li) : Int := if chkG gs ≠ 0 then chkG gs else if 32 < c.length then 2 else chkLs gs c
theorem chkLs_ok {gs : List Sy} : ∀ {c : List Li}, chkLs gs c = 0 ↔ ∀ x ∈ c, litG gs x = 0
  | [] => by simp [chkLs]
  | x :: r => by
    have ih := chkLs_ok (gs := gs) (c := r)
    simp only [chkLs]
    by_cases h : litG gs x ≠ 0
    · rw [if_pos h]; exact ⟨fun q => absurd q h, fun q => absurd (q x (List.mem_cons_self ..)) h⟩
    · rw [if_neg h, ih]
      exact ⟨fun q y hy => by rcases List.mem_cons.1 hy with rfl | hy; exact Classical.not_not.1 h; exact q y hy, fun q y hy => q y (List.mem_cons_of_mem _ hy)⟩
theorem CCheck_does {I : Imm} {vg v : Value} {gs : List Sy} {c : List Li} (hg : RepG I vg gs) (hv : RepC I v c) (hs : SmC c) :
    Does Tryz.prog 25 [vg, v] I [] (fun v I' δ' => v = .int .i64 (chkC gs c) ∧ δ' = []) := by
  obtain ⟨ad, c0, xs, rfl, hc, hb, hcells, hrow⟩ := hv
  refine Does.intro Tryz.func25 rfl Tryz.ntmps25 rfl fun w0 => ?_
  refine code_seq ?_
  refine code_region ?_
  refine op_v (v_assign rfl) rfl ?_
  refine ops_nil ?_
  refine post_next ?_
  refine code_seq ?_
  refine code_seq ?_
  refine code_region ?_
  refine op_v (v_move rfl) rfl ?_
  refine op_call pl67 rfl rfl ((GCheck_does hg)) Parts.none ?_
  rintro v10 I10 _ hI10 ⟨rfl, rfl⟩
  refine op_v (v_assign rfl) rfl ?_
  refine ops_nil ?_
  refine post_next ?_
  refine code_seq ?_
  refine code_region ?_
  refine op_v (v_move rfl) rfl ?_
  by_cases h12 : chkG gs ≠ 0
  · refine op_v (v_cmptA rfl rfl rfl) rfl ?_
    refine ops_nil ?_
    refine post_next ?_
    refine code_cond_t rfl ?_
    refine code_seq ?_
    refine code_region ?_
    refine op_v (v_move rfl) rfl ?_
    refine op_v (v_assign rfl) rfl ?_
    refine ops_nil ?_
    refine post_next ?_
    refine code_ret ?_
    refine post_ret_then ?_
    refine post_ret (rs := [.tmp 4]) rfl (List.Perm.refl _) (.cons (.tmp rfl) .nil) (List.nil_sublist _) ?_
    exact ⟨by rw [show chkC gs c = chkG gs from if_pos h12]; rfl, rfl⟩
  · refine op_v (v_cmpfA rfl rfl rfl) rfl ?_
    refine ops_nil ?_
    refine post_next ?_
    refine code_cond_f rfl ?_
    refine code_skip ?_
    refine post_next ?_
    refine code_seq ?_
    refine code_seq ?_
    refine code_region ?_
    refine op_v (v_move rfl) rfl ?_
    refine op_v (v_len Tryz.underlying23 rfl) rfl ?_
    by_cases h16 : 32 < c.length
    · refine op_v (v_cmptA rfl rfl rfl) rfl ?_
      refine ops_nil ?_
      refine post_next ?_
      refine code_cond_t rfl ?_
      refine code_seq ?_
      refine code_region ?_
      refine op_v (v_assign rfl) rfl ?_
      refine ops_nil ?_
      refine post_next ?_
      refine code_ret ?_
      refine post_ret_then ?_
      refine post_ret (rs := [.tmp 4]) rfl (List.Perm.refl _) (.cons (.tmp rfl) .nil) (List.nil_sublist _) ?_
      exact ⟨by unfold chkC; rw [if_neg h12, if_pos h16]; rfl, rfl⟩
    · have hck : chkC gs c = chkLs gs c := by unfold chkC; rw [if_neg h12, if_neg h16]
      refine op_v (v_cmpfA rfl rfl rfl) rfl ?_
      refine ops_nil ?_
      refine post_next ?_
      refine code_cond_f rfl ?_
      refine code_skip ?_
      refine post_next ?_
      refine code_seq ?_
      refine code_seq ?_
      refine code_region ?_
      refine op_v (v_move rfl) rfl ?_
      refine op_v (v_len Tryz.underlying23 rfl) rfl ?_
      refine op_v (v_move rfl) rfl ?_
      refine ops_nil ?_
      refine post_next ?_
      refine code_block ?_
      refine code_loop (fun m σ' I' δ' => ∃ k : Nat, m = c.length - k ∧ k ≤ c.length ∧ σ' = [(0, vg), (17, .slice ad c.length c0), (18, .int .i64 c.length), (19, .int .i64 k)] ∧ I.le I' ∧ δ' = [] ∧ chkLs gs c = chkLs gs (c.drop k)) c.length [(0, vg), (17, .slice ad c.length c0), (18, .int .i64 c.length), (19, .int .i64 (0 : Nat))] ⟨0, rfl, Nat.zero_le _, rfl, Imm.leA, rfl, rfl⟩ ⟨rfl, rfl, rfl, rfl, trivial⟩ ?_
      rintro m _ I0 _ ⟨k, rfl, hk, rfl, hI0, rfl, hta⟩
      refine code_seq ?_
      refine code_region ?_
      refine op_v (v_cmp rfl rfl rfl) rfl ?_
      refine ops_nil ?_
      refine post_next ?_
      refine code_seq ?_
      refine code_cond rfl (fun hc2 => ?_) (fun hc2 => ?_)
      · have hlt : k < c.length := by simpa using hc2
        obtain ⟨vs, ⟨la, lc, ra, rc, rfl, hl, hr⟩, hat⟩ := hrow.cellsAt hcells hlt
        have hs1 := hat.isSome
        have hsk := hs.at hlt
        rw [List.drop_eq_getElem_cons hlt] at hta
        refine code_skip ?_
        refine post_next ?_
        refine code_seq ?_
        refine code_block ?_
        refine code_seq ?_
        refine code_region ?_
        refine op_v (v_indexA Tryz.underlying23 sz59 rfl rfl) rfl ?_
        refine op_v (v_loadI0 ty59 (hat.mono hI0) rfl rfl rfl) rfl ?_
        refine o_alloc z59 rfl rfl (fun b7 => ?_)
        refine o_store ty59 rfl rfl rfl rfl rfl (by repeat (first | exact Swap.here | apply Swap.there)) rfl ?_
        refine ops_nil ?_
        refine post_next ?_
        refine code_seq ?_
        refine code_region ?_
        refine op_v (v_move rfl) rfl ?_
        refine op_v (v_loadA ty59 rfl rfl) rfl ?_
        refine op_call pl68 rfl rfl ((LCheck_does (x := c[k]) (hg.mono hI0) ⟨la, lc, ra, rc, rfl, hl.mono hI0, hr.mono hI0⟩ hsk.1 hsk.2)) Parts.none ?_
        rintro v25 I25 _ hI25 ⟨rfl, rfl⟩
        refine op_v (v_assign rfl) rfl ?_
        refine ops_nil ?_
        refine post_next ?_
        refine code_seq ?_
        refine code_region ?_
        refine op_v (v_move rfl) rfl ?_
        by_cases h27 : litG gs c[k] ≠ 0
        · refine op_v (v_cmptA rfl rfl rfl) rfl ?_
          refine ops_nil ?_
          refine post_next ?_
          refine code_cond_t rfl ?_
          refine code_seq ?_
          refine code_region ?_
          refine op_v (v_move rfl) rfl ?_
          refine op_v (v_assign rfl) rfl ?_
          refine ops_nil ?_
          refine post_next ?_
          refine code_ret ?_
          refine post_ret_block ?_
          refine post_ret_then ?_
          refine post_ret_then ?_
          refine post_ret_block ?_
          refine post_ret_then ?_
          refine post_ret (rs := [.tmp 4]) rfl (List.Perm.refl _) (.cons (.tmp rfl) .nil) (List.nil_sublist _) ?_
          exact ⟨by rw [hck, hta, chkLs, if_pos h27]; rfl, rfl⟩
        · refine op_v (v_cmpfA rfl rfl rfl) rfl ?_
          refine ops_nil ?_
          refine post_next ?_
          refine code_cond_f rfl ?_
          refine code_skip ?_
          refine post_out ?_
          refine post_next ?_
          refine code_region ?_
          refine op_v (v_addb rfl rfl rfl (by omega)) rfl ?_
          refine op_v (v_move rfl) rfl ?_
          refine ops_nil ?_
          refine PostJ.view (View.drop Del.here) ?_
          refine post_again (c.length - (k + 1)) [(0, vg), (17, .slice ad c.length c0), (18, .int .i64 c.length), (19, .int .i64 (k + 1 : Nat))] (by omega) ⟨k + 1, rfl, hlt, rfl, Imm.leA, rfl, by rw [hta, chkLs, if_neg h27]⟩ ⟨rfl, rfl, rfl, rfl, trivial⟩
      · have hge : k = c.length := by simp at hc2; omega
        subst hge
        rw [List.drop_length] at hta
        refine code_exit ?_
        refine post_exit_then ?_
        refine post_exit_then ?_
        refine post_exit ?_
        refine post_next ?_
        refine code_seq ?_
        refine code_region ?_
        refine op_v (v_assign rfl) rfl ?_
        refine ops_nil ?_
        refine post_next ?_
        refine code_ret ?_
        refine post_ret (rs := [.tmp 4]) rfl (List.Perm.refl _) (.cons (.tmp rfl) .nil) (List.nil_sublist _) ?_
        exact ⟨by rw [hck, hta]; rfl, rfl⟩
end Go.Proofs.YtdbadicpbmndbaaGreat
/- Variables as they come: plainly, and walks: the renamer, rows and clauses of other variables, a clause's variables. -/
set_option linter.unusedVariables false
set_option linter.unusedSimpArgs false
set_option linter.unnecessarySimpa false
/- short -/
namespace Go.Proofs.YtdbadicpbmndbaaGreat
open Go Lg

/-! ### plain -/
def numOf : List Int → Int → Nat
  | [], _ => 0
  | x :: r, v => if x = v then 0 else numOf r v + 1
def addN (ns : List Int) (v : Int) : List Int := if v ∈ ns then ns else ns ++ [v]
theorem numOf_app : ∀ {ns : List Int} {v : Int} (ms : List Int), v ∈ ns → numOf (ns ++ ms) v = numOf ns v
  | x :: r, v, ms, h => by
    simp only [numOf, List.cons_append]
    by_cases e : x = v
    · rw [if_pos e, if_pos e]
    · rw [if_neg e, if_neg e, numOf_app ms (List.mem_of_ne_of_mem (fun q => e q.symm) h)]
theorem numOf_new : ∀ {ns : List Int} {v : Int}, v ∉ ns → numOf (ns ++ [v]) v = ns.length
  | [], v, _ => by simp [numOf]
  | x :: r, v, h => by
    simp only [numOf, List.cons_append]
    rw [if_neg (fun e => h (by simp [e])), numOf_new (fun q => h (List.mem_cons_of_mem _ q))]; rfl
/-- a map of numbers -/
def MN (mp : Mp) (ns : List Int) : Prop := mp.length = ns.length ∧ ∀ v, mget mp v = if v ∈ ns then some (.int .i64 (numOf ns v : Nat)) else none
theorem MN.nil : MN [] [] := ⟨rfl, fun v => by simp [mget]⟩
theorem MN.add {mp : Mp} {ns : List Int} {v : Int} (h : MN mp ns) (hv : v ∉ ns) : MN (mput mp v (.int .i64 ns.length)) (addN ns v) := by
  have hn : mget mp v = none := by rw [h.2, if_neg hv]
  have e : addN ns v = ns ++ [v] := by unfold addN; rw [if_neg hv]
  refine ⟨?_, fun u => ?_⟩
  · have := congrArg List.length (mput_keys mp v (.int .i64 ns.length))
    rw [if_pos hn] at this
    simp only [List.length_map, List.length_append, List.length_cons, List.length_nil] at this
    rw [this, e, h.1]; simp
  · rw [mget_mput, e]
    by_cases q : v = u
    · subst q; rw [if_pos rfl, if_pos (by simp), numOf_new hv]
    · rw [if_neg q, h.2]
      by_cases m : u ∈ ns
      · rw [if_pos m, if_pos (by simp [m]), numOf_app _ m]
      · rw [if_neg m, if_neg (by simp [m]; exact fun e => q e.symm)]
/-! ### walks -/
/-! ### a clause's variables -/
end Go.Proofs.YtdbadicpbmndbaaGreat
/- Walks: how two literals stand; a literal oriented; the example of the chapter on literals. -/
set_option linter.unusedVariables false
set_option linter.unusedSimpArgs false
set_option linter.unnecessarySimpa false
/- short -/
namespace Go.Proofs.YtdbadicpbmndbaaGreat
open Go Lg

def litE (gs : List Sy) (x y : Li) : Int := if litG gs x ≠ 0 then litG gs x else litG gs y
theorem rowL_mem {x : Li} {t : T} (h : t ∈ rowL x) : t = x.l ∨ t = x.r := by
  unfold rowL at h
  split at h <;> simp at h <;> exact h
theorem rowL_len (x : Li) : (rowL x).length ≤ 4 := by unfold rowL; split <;> simp
theorem LCompare_does {I : Imm} {vg va vb : Value} {gs : List Sy} {x y : Li} (hg : RepG I vg gs) (ha : RepL I va x) (hb : RepL I vb y) (h1 : x.l.size ≤ 1000000000) (h2 : x.r.size ≤ 1000000000) (h3 : y.l.size ≤ 1000000000) (h4 : y.r.size ≤ 1000000000) :
    Does Tryz.prog 42 [vg, va, vb] I [] (fun v _ δ' => v = .tuple #[.int .i64 (if litE gs x y = 0 then mulG gs (rowL x) (rowL y) else 0), .int .i64 (litE gs x y)] ∧ δ' = []) := by
  have ha0 := ha
  have hb0 := hb
  obtain ⟨la, lc, ra, rc, rfl, hl, hr⟩ := ha
  obtain ⟨ma, mc, na, nc, rfl, kl, kr⟩ := hb
  have hx1 := rowL_len x
  have hy1 := rowL_len y
  refine Does.intro Tryz.func42 rfl Tryz.ntmps42 rfl fun w0 => ?_
  refine code_seq ?_
  refine code_region ?_
  refine o_box rfl rfl rfl (fun b4 => ?_)
  refine o_box rfl rfl rfl (fun b5 => ?_)
  refine op_v (v_assign rfl) rfl ?_
  refine op_v (v_assign rfl) rfl ?_
  refine ops_nil ?_
  refine post_next ?_
  refine code_seq ?_
  refine code_seq ?_
  refine code_region ?_
  refine op_v (v_move rfl) rfl ?_
  refine op_v (v_loadA ty59 rfl rfl) rfl ?_
  refine op_call pl68 rfl rfl ((LCheck_does (hg.mono Imm.leA) (ha0.mono Imm.leA) h1 h2)) Parts.none ?_
  rintro _ I12 _ hI12 ⟨rfl, rfl⟩
  refine op_v (v_assign rfl) rfl ?_
  refine ops_nil ?_
  refine post_next ?_
  refine code_seq ?_
  refine code_region ?_
  refine op_v (v_move rfl) rfl ?_
  by_cases e1 : litG gs x ≠ 0
  · refine op_v (v_cmptA rfl rfl rfl) rfl ?_
    refine ops_nil ?_
    refine post_next ?_
    refine code_cond_t rfl ?_
    refine code_seq ?_
    refine code_region ?_
    refine op_v (v_move rfl) rfl ?_
    refine op_v (v_assign rfl) rfl ?_
    refine op_v (v_assign rfl) rfl ?_
    refine ops_nil ?_
    refine post_next ?_
    refine code_ret ?_
    refine post_ret_then ?_
    refine post_ret (rs := [.tmp 6, .tmp 7]) rfl (List.Perm.refl _) (.cons (.tmp rfl) (.cons (.tmp rfl) .nil)) (List.nil_sublist _) ?_
    have e : litE gs x y = litG gs x := by unfold litE; rw [if_pos e1]
    exact ⟨by rw [e, if_neg e1]; rfl, rfl⟩
  · refine op_v (v_cmpfA rfl rfl rfl) rfl ?_
    refine ops_nil ?_
    refine post_next ?_
    refine code_cond_f rfl ?_
    refine code_skip ?_
    refine post_next ?_
    refine code_seq ?_
    refine code_seq ?_
    refine code_region ?_
    refine op_v (v_move rfl) rfl ?_
    refine op_v (v_loadA ty59 rfl rfl) rfl ?_
    refine op_call pl68 rfl rfl ((LCheck_does (hg.mono Imm.leA) (hb0.mono Imm.leA) h3 h4)) Parts.none ?_
    rintro _ I18 _ hI18 ⟨rfl, rfl⟩
    refine op_v (v_assign rfl) rfl ?_
    refine ops_nil ?_
    refine post_next ?_
    refine code_seq ?_
    refine code_region ?_
    refine op_v (v_move rfl) rfl ?_
    by_cases e2 : litG gs y ≠ 0
    · refine op_v (v_cmptA rfl rfl rfl) rfl ?_
      refine ops_nil ?_
      refine post_next ?_
      refine code_cond_t rfl ?_
      refine code_seq ?_
      refine code_region ?_
      refine op_v (v_move rfl) rfl ?_
      refine op_v (v_assign rfl) rfl ?_
      refine op_v (v_assign rfl) rfl ?_
      refine ops_nil ?_
      refine post_next ?_
      refine code_ret ?_
      refine post_ret_then ?_
      refine post_ret (rs := [.tmp 6, .tmp 7]) rfl (List.Perm.refl _) (.cons (.tmp rfl) (.cons (.tmp rfl) .nil)) (List.nil_sublist _) ?_
      have e : litE gs x y = litG gs y := by unfold litE; rw [if_neg e1]
      exact ⟨by rw [e, if_neg e2]; rfl, rfl⟩
    · have e : litE gs x y = 0 := by unfold litE; rw [if_neg e1]; omega
      obtain ⟨o1, o2⟩ := litG_ok (show litG gs x = 0 by omega)
      obtain ⟨o3, o4⟩ := litG_ok (show litG gs y = 0 by omega)
      have hw : wrongG gs (rowL x ++ rowL y) = 0 := wrongG_ok.2 fun t ht => by
        rcases List.mem_append.1 ht with h | h
        · rcases rowL_mem h with rfl | rfl <;> assumption
        · rcases rowL_mem h with rfl | rfl <;> assumption
      have hsx : ∀ t ∈ rowL x, t.size ≤ 1000000000 := fun t ht => by rcases rowL_mem ht with rfl | rfl <;> assumption
      have hsy : ∀ t ∈ rowL y, t.size ≤ 1000000000 := fun t ht => by rcases rowL_mem ht with rfl | rfl <;> assumption
      refine op_v (v_cmpfA rfl rfl rfl) rfl ?_
      refine ops_nil ?_
      refine post_next ?_
      refine code_cond_f rfl ?_
      refine code_skip ?_
      refine post_next ?_
      refine code_seq ?_
      refine code_draw (.fl 0 (.fl 1 (.fl 3 (.ef 2 (.ef 4 (.ef 5 (.fl 6 (.fl 7 (.ef 8 (.ef 9 .done)))))))))) (fun _ => _) mixed (by kernel_rfl) (by kernel_rfl) (fun _ => (List.Sublist.refl _)) ?_
      refine e_fl rfl rfl (fun hs_ => PF.mk rfl (v_move rfl) hs_) ?_
      refine e_fl rfl rfl (fun hs_ => PF.mk rfl (v_loadA ty59 rfl rfl) hs_) ?_
      refine e_fl rfl rfl (fun hs_ => PF.mk rfl (v_loadA ty59 rfl rfl) hs_) ?_
      refine e_eff rfl (by intro cs b hc; cases hc) (by intro c hc; cases hc) ?_
      refine op_call pl85 rfl rfl ((row_doesL (ha0.mono Imm.leA))) Parts.none ?_
      rintro v24 I24 _ hI24 ⟨hv24, rfl⟩
      refine ops_nil ?_
      refine e_next rfl side_allA ?_
      refine e_eff rfl (by intro cs b hc; cases hc) (by intro c hc; cases hc) ?_
      refine op_call pl85 rfl rfl ((row_doesL (hb0.mono Imm.leA))) Parts.none ?_
      rintro v26 I26 _ hI26 ⟨hv26, rfl⟩
      refine ops_nil ?_
      refine e_next rfl side_allA ?_
      refine e_eff rfl (by intro cs b hc; cases hc) (by intro c hc; cases hc) ?_
      refine op_call pl84 rfl rfl ((Multi_does (hg.mono Imm.leA) (hv24.mono Imm.leA) (hv26.mono Imm.leA) hsx hsy (by omega) (by omega))) Parts.none ?_
      rintro _ I27 _ hI27 ⟨rfl, rfl⟩
      rw [if_pos hw, hw]
      refine ops_nil ?_
      refine e_next rfl (side_nil (by kernel_rfl)) ?_
      refine e_fl rfl rfl (fun hs_ => PF.mk rfl (v_extract rfl rfl) hs_) ?_
      refine e_fl rfl rfl (fun hs_ => PF.mk rfl (v_extract rfl rfl) hs_) ?_
      refine e_eff rfl (by intro cs b hc; cases hc) (by intro c hc; cases hc) ?_
      refine op_v (v_assign rfl) rfl ?_
      refine ops_nil ?_
      refine e_next rfl (side_nil (by kernel_rfl)) ?_
      refine e_eff rfl (by intro cs b hc; cases hc) (by intro c hc; cases hc) ?_
      refine op_v (v_assign rfl) rfl ?_
      refine ops_nil ?_
      refine e_next rfl (side_nil (by kernel_rfl)) ?_
      refine e_done ?_
      refine post_next ?_
      refine code_ret ?_
      refine post_ret (rs := [.tmp 6, .tmp 7]) rfl (List.Perm.refl _) (.cons (.tmp rfl) (.cons (.tmp rfl) .nil)) (List.nil_sublist _) ?_
      exact ⟨by rw [e, if_pos rfl]; rfl, rfl⟩
def a9 : T := .mk 1 []
end Go.Proofs.YtdbadicpbmndbaaGreat
/- Walks: a clause's variables; two clauses side by side; the example of the chapter on clauses. -/
set_option linter.unusedVariables false
set_option linter.unusedSimpArgs false
set_option linter.unnecessarySimpa false
/- short -/
namespace Go.Proofs.YtdbadicpbmndbaaGreat
open Go Lg

end Go.Proofs.YtdbadicpbmndbaaGreat
/- The order of terms, the other way round. Plain facts; no condition. -/
set_option linter.unusedVariables false
set_option linter.unusedSimpArgs false
namespace Go.Proofs.YtdbadicpbmndbaaGreat

end Go.Proofs.YtdbadicpbmndbaaGreat
/- Rows of things of which some are greater: what the rows' order is. Plain facts; no condition. -/
set_option linter.unusedVariables false
set_option linter.unusedSectionVars false
set_option linter.unusedSimpArgs false
namespace Go.Proofs.YtdbadicpbmndbaaGreat
section
variable {K : Type} [DecidableEq K]
variable (g : K → K → Bool)
variable {g}
/-- what is greater is so both ways -/
structure OrdX (g : K → K → Bool) (Ok : K → Prop) : Prop where
  irr : ∀ x, g x x = false
  tr : ∀ x y z, Ok x → Ok y → Ok z → g x y = true → g y z = true → g x z = true
end
end Go.Proofs.YtdbadicpbmndbaaGreat
/- Rows of terms: greater than greater is greater; rows of literals. No condition. -/
set_option linter.unusedVariables false
set_option linter.unusedSimpArgs false
set_option linter.unnecessarySimpa false
namespace Go.Proofs.YtdbadicpbmndbaaGreat
open Go Lg

end Go.Proofs.YtdbadicpbmndbaaGreat
/- Clauses compared: plainly, and walks. -/
set_option linter.unusedVariables false
set_option linter.unusedSimpArgs false
set_option linter.unnecessarySimpa false
/- short -/
namespace Go.Proofs.YtdbadicpbmndbaaGreat
open Go Lg

/-! ### plain: a literal with its sides in order -/
def canL (x : Li) : Li := if cmpT x.l x.r = 1 then ⟨x.neg, x.r, x.l⟩ else x
def OkL (gs : List Sy) (x : Li) : Prop := OkG gs x.l ∧ OkG gs x.r
theorem OkL.row {gs : List Sy} {x : Li} (h : OkL gs x) : ∀ t ∈ rowL x, OkG gs t := fun t ht => by
  rcases rowL_mem ht with rfl | rfl
  · exact h.1
  · exact h.2
theorem OkL.can {gs : List Sy} {x : Li} (h : OkL gs x) : OkL gs (canL x) := by
  unfold canL
  split
  · exact ⟨h.2, h.1⟩
  · exact h
/-! ### walks -/
theorem RowE.del {n : Nat} {α : Type} {E : Elt n α} {I : Imm} {xs : List Value} {al : List α} {i : Nat} (h : RowE E I xs al) (hi : i < al.length) : RowE E I (xs.take (i * n) ++ (xs.drop ((i + 1) * n)).take ((al.length - (i + 1)) * n)) (al.eraseIdx i) := by
  rw [List.eraseIdx_eq_take_drop_succ]
  refine (h.take i (by omega)).app ?_
  have h2 := h.drop (i + 1) (by omega)
  rw [List.take_of_length_le (by rw [h2.length, List.length_drop]; exact Nat.le_refl _)]
  exact h2
theorem chkC_ok {gs : List Sy} {c : List Li} (h : chkC gs c = 0) : chkG gs = 0 ∧ c.length ≤ 32 ∧ ∀ x ∈ c, litG gs x = 0 := by
  unfold chkC at h
  by_cases h1 : chkG gs ≠ 0
  · rw [if_pos h1] at h; exact absurd h h1
  · rw [if_neg h1] at h
    by_cases h2 : 32 < c.length
    · rw [if_pos h2] at h; cases h
    · rw [if_neg h2] at h
      exact ⟨Classical.not_not.1 h1, by omega, chkLs_ok.1 h⟩
end Go.Proofs.YtdbadicpbmndbaaGreat
/- Walks: the statement that it is an order. -/
set_option linter.unusedVariables false
set_option linter.unusedSimpArgs false
/- short -/
namespace Go.Proofs.YtdbadicpbmndbaaGreat
open Go Lg

end Go.Proofs.YtdbadicpbmndbaaGreat
/- Walks: the document's answer on variables, one by one; clauses without variables: the statement. -/
set_option linter.unusedVariables false
set_option linter.unusedSimpArgs false
set_option linter.unnecessarySimpa false
/- short -/
namespace Go.Proofs.YtdbadicpbmndbaaGreat
open Go Lg

/-! ### plain: without variables -/
end Go.Proofs.YtdbadicpbmndbaaGreat
/- Walks: the example of the chapter on literals; a literal oriented: the statement. -/
set_option linter.unusedVariables false
set_option linter.unusedSimpArgs false
set_option linter.unnecessarySimpa false
/- short -/
namespace Go.Proofs.YtdbadicpbmndbaaGreat
open Go Lg

end Go.Proofs.YtdbadicpbmndbaaGreat
/- Walks: terms put into a literal, by the program. -/
set_option linter.unusedVariables false
set_option linter.unusedSimpArgs false
set_option linter.unnecessarySimpa false
/- short -/
namespace Go.Proofs.YtdbadicpbmndbaaGreat
open Go Lg

/-- what Apply answers, exactly -/
def OutE (bs : List Bi) (t : T) (e : Int) (u : T) : Prop := ((chkB bs ∧ chkT t = 0) ∧ e = chkT (sbT bs t) ∧ u = (if chkT (sbT bs t) = 0 then sbT bs t else zeroT)) ∨ (¬ (chkB bs ∧ chkT t = 0) ∧ e = 1 ∧ u = zeroT)
theorem OutE.eq {bs : List Bi} {t : T} {e f : Int} {u w : T} (h : OutE bs t e u) (k : OutE bs t f w) : e = f ∧ u = w := by
  rcases h with ⟨h1, h2, h3⟩ | ⟨h1, h2, h3⟩ <;> rcases k with ⟨k1, k2, k3⟩ | ⟨k1, k2, k3⟩
  · exact ⟨by rw [h2, k2], by rw [h3, k3]⟩
  · exact absurd h1 k1
  · exact absurd k1 h1
  · exact ⟨by rw [h2, k2], by rw [h3, k3]⟩
theorem OutE.size {bs : List Bi} {t : T} {e : Int} {u : T} (h : OutE bs t e u) : u.size ≤ 400 := by
  rcases h with ⟨h1, h2, h3⟩ | ⟨h1, h2, h3⟩
  · subst h3; split
    · exact chkT_size (by assumption)
    · exact (by decide : zeroT.size ≤ 400)
  · subst h3; exact (by decide : zeroT.size ≤ 400)
theorem ApplyE_does {I : Imm} {vs v : Value} {bs : List Bi} {t : T} (hs : RepB I vs bs) (hv : RepT I v t) (hbs : ∀ b ∈ bs, b.2.size ≤ 500) (ht : t.size ≤ 500) :
    Does Tryz.prog 121 [vs, v] I [] (fun v I' δ' => (∃ e u r, v = .tuple #[r, .int .i64 e] ∧ RepT I' r u ∧ OutE bs t e u) ∧ δ' = []) := by
  obtain ⟨a0, c0, rfl, hr0⟩ := hv.shape
  obtain ⟨sa, sc, rfl⟩ := hs.shape
  have hsz : (sbT bs t).size ≤ 1000000000 := by have := sbT_size (m := 500) (by omega) hbs t; omega
  refine Does.intro Tryz.func121 rfl Tryz.ntmps121 rfl fun w0 => ?_
  refine code_seq ?_
  refine code_region ?_
  refine o_box rfl rfl rfl (fun b3 => ?_)
  refine o_alloc z48 rfl rfl (fun b4 => ?_)
  refine op_v (v_assign rfl) rfl ?_
  refine ops_nil ?_
  refine post_next ?_
  refine code_seq ?_
  refine code_seq ?_
  refine code_region ?_
  refine op_v (v_move rfl) rfl ?_
  refine op_call pl145 rfl rfl ((SCheck_does hs (fun b hb => by have := hbs b hb; omega))) Parts.none ?_
  rintro v7 I7 _ hI7 ⟨⟨e7, rfl, he7⟩, rfl⟩
  by_cases h8 : e7 ≠ 0
  · refine op_v (v_cmptA rfl rfl rfl) rfl ?_
    refine op_v (v_move rfl) rfl ?_
    refine op_skip rfl rfl (by simp [undef]) rfl ?_
    refine op_skip rfl rfl (by simp [undef]) rfl ?_
    refine op_skip rfl rfl (by simp [undef]) rfl ?_
    refine op_v (v_pickt rfl rfl) rfl ?_
    refine ops_nil ?_
    refine post_next ?_
    refine code_cond_t rfl ?_
    refine code_seq ?_
    refine code_region ?_
    refine op_v (v_build bl48 rfl rfl) rfl ?_
    refine o_store ty48 rfl rfl rfl rfl rfl (by repeat (first | exact Swap.here | apply Swap.there)) rfl ?_
    refine op_v (v_assign rfl) rfl ?_
    refine ops_nil ?_
    refine post_next ?_
    refine code_ret ?_
    refine post_ret_then ?_
    refine post_ret (rs := [.cell 4 48, .tmp 5]) rfl (List.Perm.refl _) (.cons (.cell rfl ty48 (by repeat (first | exact Has.here | apply Has.there)) rfl) (.cons (.tmp rfl) .nil)) (List.nil_sublist _) ?_
    exact ⟨⟨1, zeroT, _, rfl, zeroT_rep _, .inr ⟨fun hh => by rcases he7 with h | h; omega; exact h.2 hh.1, rfl, rfl⟩⟩, rfl⟩
  · refine op_v (v_cmpfA rfl rfl rfl) rfl ?_
    refine op_v (v_move rfl) rfl ?_
    refine op_want rfl rfl ?_
    refine op_v (v_loadA ty48 rfl rfl) rfl ?_
    refine op_want rfl rfl ?_
    refine op_call pl49 rfl rfl ((TCheck_does (hv.mono Imm.leA) (by omega))) Parts.none ?_
    rintro v11 I11 _ hI11 ⟨rfl, rfl⟩
    by_cases h12 : chkT t ≠ 0
    · first
        | (refine op_want rfl rfl ?_
           refine op_v (v_cmptA rfl rfl rfl) rfl ?_)
        | (refine op_skip rfl rfl (by simp [undef]) rfl ?_)
      refine op_v (v_pickf rfl rfl) rfl ?_
      refine ops_nil ?_
      refine post_next ?_
      refine code_cond_t rfl ?_
      refine code_seq ?_
      refine code_region ?_
      refine op_v (v_build bl48 rfl rfl) rfl ?_
      refine o_store ty48 rfl rfl rfl rfl rfl (by repeat (first | exact Swap.here | apply Swap.there)) rfl ?_
      refine op_v (v_assign rfl) rfl ?_
      refine ops_nil ?_
      refine post_next ?_
      refine code_ret ?_
      refine post_ret_then ?_
      refine post_ret (rs := [.cell 4 48, .tmp 5]) rfl (List.Perm.refl _) (.cons (.cell rfl ty48 (by repeat (first | exact Has.here | apply Has.there)) rfl) (.cons (.tmp rfl) .nil)) (List.nil_sublist _) ?_
      exact ⟨⟨1, zeroT, _, rfl, zeroT_rep _, .inr ⟨fun hh => h12 hh.2, rfl, rfl⟩⟩, rfl⟩
    · first
        | (refine op_want rfl rfl ?_
           refine op_v (v_cmpfA rfl rfl rfl) rfl ?_)
        | (refine op_skip rfl rfl (by simp [undef]) rfl ?_)
      refine op_v (v_pickf rfl rfl) rfl ?_
      refine ops_nil ?_
      refine post_next ?_
      refine code_cond_f rfl ?_
      refine code_skip ?_
      refine post_next ?_
      refine code_seq ?_
      refine code_draw (.fl 0 (.fl 1 (.ef 2 (.fl 3 (.ef 4 (.ef 5 (.fl 6 (.fl 7 (.ef 8 (.ef 9 .done)))))))))) (fun _ => _) mixed (by kernel_rfl) (by kernel_rfl) (fun _ => (List.Sublist.refl _)) ?_
      refine e_fl rfl rfl (fun hs_ => PF.mk rfl (v_loadA ty48 rfl rfl) hs_) ?_
      refine e_fl rfl rfl (fun hs_ => PF.mk rfl (v_move rfl) hs_) ?_
      refine e_eff rfl (by intro cs b hc; cases hc) (by intro c hc; cases hc) ?_
      refine op_call pl146 rfl rfl ((open_does (hs.mono Imm.leA))) Parts.none ?_
      rintro v17 I17 _ hI17 ⟨b17, xs17, rfl, rfl, hM⟩
      refine ops_nil ?_
      refine e_next rfl side_allA ?_
      refine e_fl rfl rfl (fun hs_ => PF.mk rfl (v_makeFunc rfl rfl) hs_) ?_
      refine e_eff rfl (by intro cs b hc; cases hc) (by intro c hc; cases hc) ?_
      refine op_call pl96 rfl rfl ((rebuild_does (I0 := I17) (fun J v u hJ hu => FDoes.ofFirst (firsts := [_]) pl147 (of_does hu (hM.mono hJ))) t.size t (Nat.le_refl _) _ _ (Imm.le_refl _) (hv.mono Imm.leA))) (Parts.one Del.here) ?_
      rintro v19 I19 _ hI19 ⟨hv19, rfl⟩
      change RepT I19 v19 (sbT bs t) at hv19
      refine ops_nil ?_
      refine e_next rfl (side_nil (by kernel_rfl)) ?_
      refine e_eff rfl (by intro cs b hc; cases hc) (by intro c hc; cases hc) ?_
      refine op_call pl95 rfl rfl ((end_does hv19 hsz)) Parts.none ?_
      rintro v20 I20 _ hI20 ⟨⟨u20, rfl, hv20⟩, rfl⟩
      obtain ⟨a20, c20, rfl, _⟩ := hv20.shape
      refine ops_nil ?_
      refine e_next rfl (side_nil (by kernel_rfl)) ?_
      refine e_fl rfl rfl (fun hs_ => PF.mk rfl (v_extract rfl rfl) hs_) ?_
      refine e_fl rfl rfl (fun hs_ => PF.mk rfl (v_extract rfl rfl) hs_) ?_
      refine e_eff rfl (by intro cs b hc; cases hc) (by intro c hc; cases hc) ?_
      refine o_store ty48 rfl rfl rfl rfl rfl (by repeat (first | exact Swap.here | apply Swap.there)) rfl ?_
      refine ops_nil ?_
      refine e_next_ (side_nil (by kernel_rfl)) ?_
      refine e_eff rfl (by intro cs b hc; cases hc) (by intro c hc; cases hc) ?_
      refine op_v (v_assign rfl) rfl ?_
      refine ops_nil ?_
      refine e_next rfl (side_nil (by kernel_rfl)) ?_
      refine e_done ?_
      refine post_next ?_
      refine code_ret ?_
      refine post_ret (rs := [.cell 4 48, .tmp 5]) rfl (List.Perm.refl _) (.cons (.cell rfl ty48 (by repeat (first | exact Has.here | apply Has.there)) rfl) (.cons (.tmp rfl) .nil)) (List.nil_sublist _) ?_
      have he0 : e7 = 0 := by omega
      have hcb : chkB bs := by rcases he7 with h | h; exact h.2; omega
      exact ⟨⟨chkT (sbT bs t), _, _, rfl, hv20, .inl ⟨⟨hcb, by omega⟩, rfl, rfl⟩⟩, rfl⟩
def OutL (bs : List Bi) (x : Li) (e : Int) (y : Li) : Prop := ∃ e1 u1, OutE bs x.l e1 u1 ∧ ((e1 ≠ 0 ∧ e = e1 ∧ y = zeroLi) ∨ (e1 = 0 ∧ ∃ e2 u2, OutE bs x.r e2 u2 ∧ ((e2 ≠ 0 ∧ e = e2 ∧ y = zeroLi) ∨ (e2 = 0 ∧ e = 0 ∧ y = ⟨x.neg, u1, u2⟩))))
theorem OutL.eq {bs : List Bi} {x y z : Li} {e f : Int} (h : OutL bs x e y) (k : OutL bs x f z) : e = f ∧ y = z := by
  obtain ⟨e1, u1, h1, h⟩ := h
  obtain ⟨f1, w1, k1, k⟩ := k
  obtain ⟨rfl, rfl⟩ := h1.eq k1
  rcases h with ⟨h2, rfl, rfl⟩ | ⟨h2, e2, u2, h3, h⟩ <;> rcases k with ⟨k2, rfl, rfl⟩ | ⟨k2, f2, w2, k3, k⟩
  · exact ⟨rfl, rfl⟩
  · exact absurd k2 h2
  · exact absurd h2 k2
  · obtain ⟨rfl, rfl⟩ := h3.eq k3
    rcases h with ⟨h4, rfl, rfl⟩ | ⟨h4, rfl, rfl⟩ <;> rcases k with ⟨k4, rfl, rfl⟩ | ⟨k4, rfl, rfl⟩
    · exact ⟨rfl, rfl⟩
    · exact absurd k4 h4
    · exact absurd h4 k4
    · exact ⟨rfl, rfl⟩
theorem OutL.size {bs : List Bi} {x y : Li} {e : Int} (h : OutL bs x e y) : y.l.size ≤ 1000000000 ∧ y.r.size ≤ 1000000000 := by
  have hz : zeroT.size ≤ 400 := by decide
  obtain ⟨e1, u1, h1, ⟨_, _, rfl⟩ | ⟨_, e2, u2, h3, ⟨_, _, rfl⟩ | ⟨_, _, rfl⟩⟩⟩ := h
  · exact ⟨Nat.le_trans hz (by omega), Nat.le_trans hz (by omega)⟩
  · exact ⟨Nat.le_trans hz (by omega), Nat.le_trans hz (by omega)⟩
  · have := h1.size; have := h3.size; exact ⟨by show u1.size ≤ _; omega, by show u2.size ≤ _; omega⟩
theorem LApply_does {I : Imm} {vs va : Value} {bs : List Bi} {x : Li} (hs : RepB I vs bs) (ha : RepL I va x) (hbs : ∀ b ∈ bs, b.2.size ≤ 500) (h1 : x.l.size ≤ 500) (h2 : x.r.size ≤ 500) :
    Does Tryz.prog 77 [vs, va] I [] (fun v I' δ' => (∃ e y r, v = .tuple #[r, .int .i64 e] ∧ RepL I' r y ∧ OutL bs x e y) ∧ δ' = []) := by
  obtain ⟨la, lc, ra, rc, rfl, hl, hr⟩ := ha
  obtain ⟨sa, sc, rfl⟩ := hs.shape
  refine Does.intro Tryz.func77 rfl Tryz.ntmps77 rfl fun w0 => ?_
  refine code_seq ?_
  refine code_region ?_
  refine o_box rfl rfl rfl (fun b3 => ?_)
  refine o_alloc z59 rfl rfl (fun b4 => ?_)
  refine op_v (v_assign rfl) rfl ?_
  refine ops_nil ?_
  refine post_next ?_
  refine code_seq ?_
  refine code_region ?_
  refine op_v (v_move rfl) rfl ?_
  refine op_v (v_fieldB 1 Tryz.underlying59 rfl rfl fz48 rfl) rfl ?_
  refine op_v (v_loadA ty48 rfl rfl) rfl ?_
  refine op_call pl121 rfl rfl ((ApplyE_does (hs.mono Imm.leA) (hl.mono Imm.leA) hbs h1)) Parts.none ?_
  rintro v13 I13 _ hI13 ⟨⟨e1, u1, r1, rfl, hr1, ho1⟩, rfl⟩
  obtain ⟨ua, uc, rfl, _⟩ := hr1.shape
  refine op_v (v_move rfl) rfl ?_
  refine op_v (v_extract rfl rfl) rfl ?_
  refine op_v (v_extract rfl rfl) rfl ?_
  refine o_alloc z48 rfl rfl (fun b6 => ?_)
  refine o_store ty48 rfl rfl rfl rfl rfl (by repeat (first | exact Swap.here | apply Swap.there)) rfl ?_
  refine op_v (v_assign rfl) rfl ?_
  refine ops_nil ?_
  refine post_next ?_
  refine code_seq ?_
  refine code_seq ?_
  refine code_region ?_
  refine op_v (v_move rfl) rfl ?_
  by_cases q1 : e1 ≠ 0
  · refine op_v (v_cmptA rfl rfl rfl) rfl ?_
    refine ops_nil ?_
    refine post_next ?_
    refine code_cond_t rfl ?_
    refine code_seq ?_
    refine code_region ?_
    refine op_v (v_build bl59 rfl rfl) rfl ?_
    refine op_v (v_move rfl) rfl ?_
    refine o_store ty59 rfl rfl rfl rfl rfl (by repeat (first | exact Swap.here | apply Swap.there)) rfl ?_
    refine op_v (v_assign rfl) rfl ?_
    refine ops_nil ?_
    refine post_next ?_
    refine code_ret ?_
    refine post_ret_then ?_
    refine post_ret (rs := [.cell 4 59, .tmp 5]) rfl (List.Perm.refl _) (.cons (.cell rfl ty59 (by repeat (first | exact Has.here | apply Has.there)) rfl) (.cons (.tmp rfl) .nil)) (List.nil_sublist _) ?_
    exact ⟨⟨e1, zeroLi, _, rfl, ⟨none, 0, none, 0, rfl, zeroT_rep _, zeroT_rep _⟩, e1, u1, ho1, .inl ⟨q1, rfl, rfl⟩⟩, rfl⟩
  · refine op_v (v_cmpfA rfl rfl rfl) rfl ?_
    refine ops_nil ?_
    refine post_next ?_
    refine code_cond_f rfl ?_
    refine code_skip ?_
    refine post_next ?_
    refine code_seq ?_
    refine code_region ?_
    refine op_v (v_move rfl) rfl ?_
    refine op_v (v_fieldB 3 Tryz.underlying59 rfl rfl fz48 rfl) rfl ?_
    refine op_v (v_loadA ty48 rfl rfl) rfl ?_
    refine op_call pl121 rfl rfl ((ApplyE_does (hs.mono Imm.leA) (hr.mono Imm.leA) hbs h2)) Parts.none ?_
    rintro v24 I24 _ hI24 ⟨⟨e2, u2, r2, rfl, hr2, ho2⟩, rfl⟩
    obtain ⟨wa, wc, rfl, _⟩ := hr2.shape
    refine op_v (v_move rfl) rfl ?_
    refine op_v (v_extract rfl rfl) rfl ?_
    refine op_v (v_extract rfl rfl) rfl ?_
    refine o_alloc z48 rfl rfl (fun b8 => ?_)
    refine o_store ty48 rfl rfl rfl rfl rfl (by repeat (first | exact Swap.here | apply Swap.there)) rfl ?_
    refine op_v (v_assign rfl) rfl ?_
    refine ops_nil ?_
    refine post_next ?_
    refine code_seq ?_
    refine code_seq ?_
    refine code_region ?_
    refine op_v (v_move rfl) rfl ?_
    by_cases q2 : e2 ≠ 0
    · refine op_v (v_cmptA rfl rfl rfl) rfl ?_
      refine ops_nil ?_
      refine post_next ?_
      refine code_cond_t rfl ?_
      refine code_seq ?_
      refine code_region ?_
      refine op_v (v_build bl59 rfl rfl) rfl ?_
      refine op_v (v_move rfl) rfl ?_
      refine o_store ty59 rfl rfl rfl rfl rfl (by repeat (first | exact Swap.here | apply Swap.there)) rfl ?_
      refine op_v (v_assign rfl) rfl ?_
      refine ops_nil ?_
      refine post_next ?_
      refine code_ret ?_
      refine post_ret_then ?_
      refine post_ret (rs := [.cell 4 59, .tmp 5]) rfl (List.Perm.refl _) (.cons (.cell rfl ty59 (by repeat (first | exact Has.here | apply Has.there)) rfl) (.cons (.tmp rfl) .nil)) (List.nil_sublist _) ?_
      exact ⟨⟨e2, zeroLi, _, rfl, ⟨none, 0, none, 0, rfl, zeroT_rep _, zeroT_rep _⟩, e1, u1, ho1, .inr ⟨by omega, e2, u2, ho2, .inl ⟨q2, rfl, rfl⟩⟩⟩, rfl⟩
    · refine op_v (v_cmpfA rfl rfl rfl) rfl ?_
      refine ops_nil ?_
      refine post_next ?_
      refine code_cond_f rfl ?_
      refine code_skip ?_
      refine post_next ?_
      refine code_seq ?_
      refine code_region ?_
      refine op_v (v_fieldB 0 Tryz.underlying59 rfl rfl fz4 rfl) rfl ?_
      refine op_v (v_loadA ty4 rfl rfl) rfl ?_
      refine op_v (v_loadA ty48 rfl rfl) rfl ?_
      refine op_v (v_loadA ty48 rfl rfl) rfl ?_
      refine op_v (v_build bl59 rfl rfl) rfl ?_
      refine o_store ty59 rfl rfl rfl rfl rfl (by repeat (first | exact Swap.here | apply Swap.there)) rfl ?_
      refine op_v (v_assign rfl) rfl ?_
      refine ops_nil ?_
      refine post_next ?_
      refine code_ret ?_
      refine post_ret (rs := [.cell 4 59, .tmp 5]) rfl (List.Perm.refl _) (.cons (.cell rfl ty59 (by repeat (first | exact Has.here | apply Has.there)) rfl) (.cons (.tmp rfl) .nil)) (List.nil_sublist _) ?_
      exact ⟨⟨0, ⟨x.neg, u1, u2⟩, _, rfl, ⟨ua, uc, wa, wc, rfl, hr1.mono Imm.leA, hr2.mono Imm.leA⟩, e1, u1, ho1, .inr ⟨by omega, e2, u2, ho2, .inr ⟨by omega, rfl, rfl⟩⟩⟩, rfl⟩
end Go.Proofs.YtdbadicpbmndbaaGreat
/- Which literals are maximal: plainly, and walks: terms put into clauses, Maximal. -/
set_option linter.unusedVariables false
set_option linter.unusedSimpArgs false
set_option linter.unnecessarySimpa false
/- short -/
namespace Go.Proofs.YtdbadicpbmndbaaGreat
open Go Lg

/-! ### terms put into a clause -/
def OutC (bs : List Bi) (c : List Li) (e : Int) (ys : List Li) : Prop :=
  (32 < c.length ∧ e = 2 ∧ ys = []) ∨ (c.length ≤ 32 ∧ ((∃ (k : Nat) (hk : k < c.length) (zs : List Li) (y : Li), (zs.length = k ∧ ∀ i (h : i < k) (h2 : i < zs.length), OutL bs c[i] 0 zs[i]) ∧ OutL bs c[k] e y ∧ e ≠ 0 ∧ ys = []) ∨ (e = 0 ∧ ys.length = c.length ∧ ∀ i (h : i < c.length) (h2 : i < ys.length), OutL bs c[i] 0 ys[i])))
theorem OutC.eq {bs : List Bi} {c ys zs : List Li} {e f : Int} (h : OutC bs c e ys) (k : OutC bs c f zs) : e = f ∧ ys = zs := by
  rcases h with ⟨h1, rfl, rfl⟩ | ⟨h1, h⟩ <;> rcases k with ⟨k1, rfl, rfl⟩ | ⟨k1, k⟩
  · exact ⟨rfl, rfl⟩
  · omega
  · omega
  · rcases h with ⟨i, hi, us, y, ⟨hul, hu⟩, hy, he, rfl⟩ | ⟨rfl, hl, hall⟩ <;> rcases k with ⟨j, hj, ws, z, ⟨hwl, hw⟩, hz, hf, rfl⟩ | ⟨rfl, hm, hbll⟩
    · rcases Nat.lt_trichotomy i j with q | q | q
      · exact absurd ((hy.eq (hw i q (by omega))).1) he
      · subst q; exact ⟨(hy.eq hz).1, rfl⟩
      · exact absurd ((hz.eq (hu j q (by omega))).1) hf
    · exact absurd ((hy.eq (hbll i hi (by omega))).1) he
    · exact absurd ((hz.eq (hall j hj (by omega))).1) hf
    · exact ⟨rfl, List.ext_getElem (by omega) fun i h1 h2 => ((hall i (by omega) h1).eq (hbll i (by omega) h2)).2⟩
theorem OutC.sm {bs : List Bi} {c ys : List Li} {e : Int} (h : OutC bs c e ys) : SmC ys := by
  rcases h with ⟨_, _, rfl⟩ | ⟨_, ⟨_, _, _, _, _, _, _, rfl⟩ | ⟨_, hl, hall⟩⟩
  · intro x hx; cases hx
  · intro x hx; cases hx
  · intro x hx
    obtain ⟨i, hi, rfl⟩ := List.getElem_of_mem hx
    exact (hall i (by omega) hi).size
theorem CApply_does {I : Imm} {vs v : Value} {bs : List Bi} {c : List Li} (hs : RepB I vs bs) (hv : RepC I v c) (hbs : ∀ b ∈ bs, b.2.size ≤ 500) (hsz : ∀ x ∈ c, x.l.size ≤ 500 ∧ x.r.size ≤ 500) :
    Does Tryz.prog 33 [vs, v] I [] (fun v I' δ' => (∃ e ys r, v = .tuple #[r, .int .i64 e] ∧ RepC I' r ys ∧ OutC bs c e ys) ∧ δ' = []) := by
  obtain ⟨sa, sc, rfl⟩ := hs.shape
  obtain ⟨ad, c0, xs, rfl, hc, hb, hcells, hrow⟩ := hv
  refine Does.intro Tryz.func33 rfl Tryz.ntmps33 rfl fun w0 => ?_
  refine code_seq ?_
  refine code_region ?_
  refine op_v (v_assign rfl) rfl ?_
  refine op_v (v_assign rfl) rfl ?_
  refine ops_nil ?_
  refine post_next ?_
  refine code_seq ?_
  refine code_seq ?_
  refine code_region ?_
  refine op_v (v_move rfl) rfl ?_
  refine op_v (v_len Tryz.underlying23 rfl) rfl ?_
  by_cases h13 : 32 < c.length
  · refine op_v (v_cmpt rfl rfl rfl (by omega)) rfl ?_
    refine ops_nil ?_
    refine post_next ?_
    refine code_cond_t rfl ?_
    refine code_seq ?_
    refine code_region ?_
    refine op_v (v_assign rfl) rfl ?_
    refine op_v (v_assign rfl) rfl ?_
    refine ops_nil ?_
    refine post_next ?_
    refine code_ret ?_
    refine post_ret_then ?_
    refine post_ret (rs := [.tmp 4, .tmp 5]) rfl (List.Perm.refl _) (.cons (.tmp rfl) (.cons (.tmp rfl) .nil)) (List.nil_sublist _) ?_
    exact ⟨⟨2, [], _, rfl, RepE.nil, .inl ⟨h13, rfl, rfl⟩⟩, rfl⟩
  · refine op_v (v_cmpf rfl rfl rfl (by omega)) rfl ?_
    refine ops_nil ?_
    refine post_next ?_
    refine code_cond_f rfl ?_
    refine code_skip ?_
    refine post_next ?_
    refine code_seq ?_
    refine code_region ?_
    refine op_v (v_assign rfl) rfl ?_
    refine ops_nil ?_
    refine post_next ?_
    refine code_seq ?_
    refine code_seq ?_
    refine code_region ?_
    refine op_v (v_move rfl) rfl ?_
    refine op_v (v_len Tryz.underlying23 rfl) rfl ?_
    refine op_v (v_move rfl) rfl ?_
    refine ops_nil ?_
    refine post_next ?_
    refine code_block ?_
    refine CodeJ.view (View.nilRow 59 5) ?_
    refine code_loop (fun m σ' I' δ' => ∃ (k : Nat) (A : Option Addr) (c' : Nat) (zs : List Value) (ys : List Li), m = c.length - k ∧ k ≤ c.length ∧ σ' = [(0, .slice sa bs.length sc), (6, .slice A ys.length c'), (14, .slice ad c.length c0), (15, .int .i64 c.length), (16, .int .i64 k)] ∧ I.le I' ∧ δ' = [cRow A c' ys.length zs] ∧ RowE LitE I' zs ys ∧ ys.length = k ∧ ∀ i (h : i < k) (h2 : i < ys.length) (h3 : i < c.length), OutL bs c[i] 0 ys[i]) c.length [(0, .slice sa bs.length sc), (6, .slice none 0 0), (14, .slice ad c.length c0), (15, .int .i64 c.length), (16, .int .i64 (0 : Nat))] ⟨0, none, 0, [], [], rfl, Nat.zero_le _, rfl, Imm.le_refl _, rfl, rfl, rfl, fun i h => by omega⟩ ⟨rfl, rfl, rfl, rfl, rfl, trivial⟩ ?_
    rintro m _ I0 _ ⟨k, A, c', zs, ys, rfl, hk, rfl, hI0, rfl, hzs, hyl, hall⟩
    refine code_seq ?_
    refine code_region ?_
    refine op_v (v_cmp rfl rfl rfl) rfl ?_
    refine ops_nil ?_
    refine post_next ?_
    refine code_seq ?_
    refine code_cond rfl (fun hc1 => ?_) (fun hc1 => ?_)
    · have hlt : k < c.length := by simpa using hc1
      obtain ⟨vs, ⟨la, lc, ra, rc, rfl, hl, hr⟩, hat⟩ := hrow.cellsAt hcells hlt
      have hs1 := hat.isSome
      have hsk := hsz _ (List.getElem_mem hlt)
      refine code_skip ?_
      refine post_next ?_
      refine code_seq ?_
      refine code_block ?_
      refine code_seq ?_
      refine code_region ?_
      refine op_v (v_indexA Tryz.underlying23 sz59 rfl rfl) rfl ?_
      refine op_v (v_loadI0 ty59 (hat.mono hI0) rfl rfl rfl) rfl ?_
      refine o_alloc z59 rfl rfl (fun b8 => ?_)
      refine o_store ty59 rfl rfl rfl rfl rfl (by repeat (first | exact Swap.here | apply Swap.there)) rfl ?_
      refine ops_nil ?_
      refine post_next ?_
      refine code_seq ?_
      refine code_region ?_
      refine op_v (v_move rfl) rfl ?_
      refine op_v (v_loadA ty59 rfl rfl) rfl ?_
      refine op_call pl77 rfl rfl ((LApply_does (x := c[k]) (hs.mono Imm.leA) ⟨la, lc, ra, rc, rfl, hl.mono Imm.leA, hr.mono Imm.leA⟩ hbs hsk.1 hsk.2)) Parts.none ?_
      rintro v23 I23 _ hI23 ⟨⟨e, y, r23, rfl, hr23, ho⟩, rfl⟩
      obtain ⟨ma, mc, na, nc, rfl, hml, hmr⟩ := hr23
      refine op_v (v_move rfl) rfl ?_
      refine op_v (v_extract rfl rfl) rfl ?_
      refine op_v (v_extract rfl rfl) rfl ?_
      refine o_alloc z59 rfl rfl (fun b9 => ?_)
      refine o_store ty59 rfl rfl rfl rfl rfl (by repeat (first | exact Swap.here | apply Swap.there)) rfl ?_
      refine op_v (v_assign rfl) rfl ?_
      refine ops_nil ?_
      refine post_next ?_
      refine code_seq ?_
      refine code_seq ?_
      refine code_region ?_
      refine op_v (v_move rfl) rfl ?_
      by_cases h27 : e ≠ 0
      · refine op_v (v_cmptA rfl rfl rfl) rfl ?_
        refine ops_nil ?_
        refine post_next ?_
        refine code_cond_t rfl ?_
        refine code_seq ?_
        refine code_region ?_
        refine op_v (v_move rfl) rfl ?_
        refine op_v (v_assign rfl) rfl ?_
        refine op_v (v_assign rfl) rfl ?_
        refine ops_nil ?_
        refine post_next ?_
        refine code_ret ?_
        refine post_ret_then ?_
        refine post_ret_block ?_
        refine post_ret_then ?_
        refine post_ret_then ?_
        refine post_ret_block ?_
        refine post_ret_then ?_
        refine post_ret (rs := [.tmp 4, .tmp 5]) rfl (List.Perm.refl _) (.cons (.tmp rfl) (.cons (.tmp rfl) .nil)) (List.nil_sublist _) ?_
        exact ⟨⟨e, [], _, rfl, RepE.nil, .inr ⟨by omega, .inl ⟨k, hlt, ys, y, ⟨hyl, fun i h h2 => hall i h h2 (by omega)⟩, ho, h27, rfl⟩⟩⟩, rfl⟩
      · have he : e = 0 := Classical.not_not.1 h27
        subst he
        refine op_v (v_cmpfA rfl rfl rfl) rfl ?_
        refine ops_nil ?_
        refine post_next ?_
        refine code_cond_f rfl ?_
        refine code_skip ?_
        refine post_next ?_
        refine code_region ?_
        refine op_v (v_move rfl) rfl ?_
        refine op_v (v_loadA ty59 rfl rfl) rfl ?_
        refine o_buildSlice (xs := [(Go.Operand.tmp 30)]) Tryz.underlying23 bs59 rfl rfl rfl rfl rfl (fun b31 => ?_)
        refine o_append Tryz.underlying23 bs59 rfl rfl rfl (fun v' => by repeat (first | exact Swap.here | apply Swap.there)) (Src.ofRow (by repeat (first | exact Has.here | apply Has.there)) rfl) (by first | rfl | omega | simp) (by simp [cat, cellsL, Value.oneCell']) (by omega) (by omega) (fun a32 c32 => ?_)
        have hl2 : ys.length + 1 = (ys ++ [y]).length := by simp
        refine op_v (v_assign rfl) rfl ?_
        refine ops_nil ?_
        refine post_out ?_
        refine post_next ?_
        refine code_region ?_
        refine op_v (v_addb rfl rfl rfl (by omega)) rfl ?_
        refine op_v (v_move rfl) rfl ?_
        refine ops_nil ?_
        refine PostJ.view ((View.drop Del.here).trans ((View.drop Del.here).trans (View.drop Del.here))) ?_
        refine post_again (c.length - (k + 1)) [(0, .slice sa bs.length sc), (6, .slice a32 (ys.length + 1) c32), (14, .slice ad c.length c0), (15, .int .i64 c.length), (16, .int .i64 (k + 1 : Nat))] (by omega) ⟨k + 1, a32, c32, zs ++ liC y ma mc na nc, ys ++ [y], rfl, hlt, by rw [hl2], Imm.leA, by simp only [cRow, ← hl2]; rfl, (hzs.mono Imm.leA).app (RowE.single ⟨ma, mc, na, nc, rfl, hml.mono Imm.leA, hmr.mono Imm.leA⟩), by simp; exact hyl, fun i h h2 h3 => ?_⟩ ⟨rfl, rfl, rfl, rfl, rfl, trivial⟩
        rcases Nat.lt_or_ge i k with q | q
        · rw [List.getElem_append_left (by omega)]; exact hall i q (by omega) h3
        · have e : i = k := by omega
          subst e
          rw [List.getElem_append_right (by omega)]; simp only [hyl, Nat.sub_self, List.getElem_cons_zero]; exact ho
    · have hge : k = c.length := by simp at hc1; omega
      refine code_exit ?_
      refine post_exit_then ?_
      refine post_exit_then ?_
      refine post_exit ?_
      refine post_next ?_
      refine code_seq ?_
      refine code_region ?_
      refine OpsJ.freezeRow Del.here ?_
      rintro I34 a34 c34 hI34 hq hc34 hl34 hcells34
      cases hq
      refine op_v (v_move rfl) rfl ?_
      refine op_v (v_assign rfl) rfl ?_
      refine op_v (v_assign rfl) rfl ?_
      refine ops_nil ?_
      refine post_next ?_
      refine code_ret ?_
      refine post_ret (rs := [.tmp 4, .tmp 5]) rfl (List.Perm.refl _) (.cons (.tmp rfl) (.cons (.tmp rfl) .nil)) (List.nil_sublist _) ?_
      exact ⟨⟨0, ys, _, rfl, ⟨_, _, _, rfl, hc34, by omega, hcells34, hzs.mono hI34⟩, .inr ⟨by omega, .inr ⟨rfl, by omega, fun i h h2 => hall i (by omega) h2 h⟩⟩⟩, rfl⟩
/-! ### which ones are maximal -/
theorem chkC_litE {gs : List Sy} {c : List Li} (h : chkC gs c = 0) {x y : Li} (hx : x ∈ c) (hy : y ∈ c) : litE gs x y = 0 := by
  unfold litE; rw [if_neg (by rw [(chkC_ok h).2.2 x hx]; simp)]; exact (chkC_ok h).2.2 y hy
def undB (gs : List Sy) (x y : Li) (s : Bool) : Bool := !decide (mulG gs (rowL x) (rowL y) = 1) && !(s && decide (mulG gs (rowL x) (rowL y) = 0))
def topG (gs : List Sy) (c : List Li) (i : Nat) (s : Bool) : Bool := (List.range c.length).all fun k => decide (k = i) || undB gs (c.getD k zeroLi) (c.getD i zeroLi) s
theorem topG_iff {gs : List Sy} {c : List Li} {i : Nat} {s : Bool} (hi : i < c.length) : topG gs c i s = true ↔ ∀ k (h : k < c.length), k = i ∨ undB gs c[k] c[i] s = true := by
  unfold topG
  rw [List.all_eq_true]
  constructor
  · intro h k hk
    have := h k (List.mem_range.2 hk)
    rw [Bool.or_eq_true, decide_eq_true_eq] at this
    rw [List.getD_eq_getElem?_getD, List.getD_eq_getElem?_getD, List.getElem?_eq_getElem hk, List.getElem?_eq_getElem hi] at this
    exact this
  · intro h k hk
    have hk := List.mem_range.1 hk
    rw [Bool.or_eq_true, decide_eq_true_eq]
    rw [List.getD_eq_getElem?_getD, List.getD_eq_getElem?_getD, List.getElem?_eq_getElem hk, List.getElem?_eq_getElem hi]
    exact h k hk
theorem top1_does {I : Imm} {b4 b5 b6 b7 : Nat} {vg : Value} {ad : Option Addr} {c0 : Nat} {gs : List Sy} {c : List Li} {s : Bool} {i k : Nat} (hg : RepG I vg gs) (hv : RepC I (.slice ad c.length c0) c) (hsm : SmC c) (hchk : chkC gs c = 0) (hi : i < c.length) (hk : k < c.length) :
    Does Tryz.prog 69 [.int .i64 k, .pointer (some ⟨b4, 0, none⟩), .pointer (some ⟨b5, 0, none⟩), .pointer (some ⟨b6, 0, none⟩), .pointer (some ⟨b7, 0, none⟩)] I [.box b7 4 [.bool s], .box b6 3 [.int .i64 i], .box b5 23 [.slice ad c.length c0], .box b4 22 [vg]]
      (fun v _ δ' => v = .bool (undB gs c[k] c[i] s) ∧ δ' = [.box b7 4 [.bool s], .box b6 3 [.int .i64 i], .box b5 23 [.slice ad c.length c0], .box b4 22 [vg]]) := by
  obtain ⟨_, _, xs, hq, hc, hb, hcells, hrow⟩ := id hv
  cases hq
  obtain ⟨vk, ⟨la, lc, ra, rc, rfl, hkl, hkr⟩, hatk⟩ := hrow.cellsAt hcells hk
  obtain ⟨vi, ⟨ma, mc, na, nc, rfl, hil, hir⟩, hati⟩ := hrow.cellsAt hcells hi
  have hs1 := hatk.isSome
  have hsk := hsm.at hk
  have hsi := hsm.at hi
  refine Does.intro Tryz.func69 rfl Tryz.ntmps69 rfl fun w0 => ?_
  refine code_seq ?_
  refine code_region ?_
  refine op_v (v_assign rfl) rfl ?_
  refine ops_nil ?_
  refine post_next ?_
  refine code_seq ?_
  refine code_draw (.fl 0 (.fl 1 (.fl 2 (.fl 3 (.fl 4 (.fl 5 (.fl 6 (.fl 7 (.fl 8 (.ef 9 (.fl 10 (.fl 11 (.fl 12 (.ef 13 (.ef 14 .done))))))))))))))) (fun _ => _) mixed (by kernel_rfl) (by kernel_rfl) (fun _ => (List.Sublist.refl _)) ?_
  refine e_fl rfl rfl (fun hs_ => PF.mk rfl (v_loadA ty22 rfl rfl) hs_) ?_
  refine e_fl rfl rfl (fun hs_ => PF.mk rfl (v_loadA ty23 rfl rfl) hs_) ?_
  refine e_fl rfl rfl (fun hs_ => PF.mk rfl (v_move rfl) hs_) ?_
  refine e_fl rfl rfl (fun hs_ => PF.mk rfl (v_indexA Tryz.underlying23 sz59 rfl rfl) hs_) ?_
  refine e_fl rfl rfl (fun hs_ => PF.mk rfl (v_loadI0 ty59 (hatk) rfl rfl rfl) hs_) ?_
  refine e_fl rfl rfl (fun hs_ => PF.mk rfl (v_loadA ty23 rfl rfl) hs_) ?_
  refine e_fl rfl rfl (fun hs_ => PF.mk rfl (v_loadA ty3 rfl rfl) hs_) ?_
  refine e_fl rfl rfl (fun hs_ => PF.mk rfl (v_indexA Tryz.underlying23 sz59 rfl rfl) hs_) ?_
  refine e_fl rfl rfl (fun hs_ => PF.mk rfl (v_loadI0 ty59 (hati) rfl rfl rfl) hs_) ?_
  refine e_eff rfl (by intro cs b hc; cases hc) (by intro c hc; cases hc) ?_
  refine op_call pl42 rfl rfl ((LCompare_does (x := c[k]) (y := c[i]) hg ⟨la, lc, ra, rc, rfl, hkl, hkr⟩ ⟨ma, mc, na, nc, rfl, hil, hir⟩ hsk.1 hsk.2 hsi.1 hsi.2)) Parts.none ?_
  rintro v19 I19 _ hI19 ⟨rfl, rfl⟩
  rw [chkC_litE hchk (List.getElem_mem hk) (List.getElem_mem hi), if_pos rfl]
  refine ops_nil ?_
  refine e_next rfl side_allA ?_
  refine e_fl rfl rfl (fun hs_ => PF.mk rfl (v_move rfl) hs_) ?_
  refine e_fl rfl rfl (fun hs_ => PF.mk rfl (v_extract rfl rfl) hs_) ?_
  refine e_fl rfl rfl (fun hs_ => PF.mk rfl (v_extract rfl rfl) hs_) ?_
  refine e_eff rfl (by intro cs b hc; cases hc) (by intro c hc; cases hc) ?_
  refine op_v (v_assign rfl) rfl ?_
  refine ops_nil ?_
  refine e_next rfl side_allA ?_
  refine e_eff rfl (by intro cs b hc; cases hc) (by intro c hc; cases hc) ?_
  refine op_v (v_assign rfl) rfl ?_
  refine ops_nil ?_
  refine e_next rfl (side_nil (by kernel_rfl)) ?_
  refine e_done ?_
  refine post_next ?_
  refine code_seq ?_
  refine code_region ?_
  refine op_v (v_move rfl) rfl ?_
  refine op_v (v_cmptA rfl rfl rfl) rfl ?_
  refine op_v (v_move rfl) rfl ?_
  refine op_want rfl rfl ?_
  refine op_v (v_move rfl) rfl ?_
  by_cases h26 : mulG gs (rowL c[k]) (rowL c[i]) ≠ 1
  · first
      | (refine op_want rfl rfl ?_
         refine op_v (v_cmptA rfl rfl rfl) rfl ?_)
      | (refine op_skip rfl rfl (by simp [undef]) rfl ?_)
    refine op_v (v_pickt rfl rfl) rfl ?_
    refine op_v (v_move rfl) rfl ?_
    by_cases hst : s = true
    · subst hst
      refine op_want rfl rfl ?_
      refine op_v (v_loadA ty4 rfl rfl) rfl ?_
      refine op_want rfl rfl ?_
      refine op_v (v_move rfl) rfl ?_
      refine op_want rfl rfl ?_
      refine op_v (v_move rfl) rfl ?_
      by_cases h32 : mulG gs (rowL c[k]) (rowL c[i]) = 0
      · first
          | (refine op_want rfl rfl ?_
             refine op_v (v_cmptA rfl rfl rfl) rfl ?_)
          | (refine op_skip rfl rfl (by simp [undef]) rfl ?_)
        first
          | (refine op_want rfl rfl ?_
             refine op_v (v_pickt rfl rfl) rfl ?_)
          | (refine op_skip rfl rfl (by simp [undef]) rfl ?_)
        refine op_want rfl rfl ?_
        refine op_v (v_not rfl) rfl ?_
        refine op_v (v_pickt rfl rfl) rfl ?_
        refine op_v (v_assign rfl) rfl ?_
        refine ops_nil ?_
        refine post_next ?_
        refine code_ret ?_
        refine post_ret (rs := [.tmp 6]) rfl (List.Perm.refl _) (.cons (.tmp rfl) .nil) (List.Sublist.refl _) ?_
        exact ⟨by rw [show undB gs c[k] c[i] true = false from by simp [undB, h32]]; rfl, rfl⟩
      · first
          | (refine op_want rfl rfl ?_
             refine op_v (v_cmpfA rfl rfl rfl) rfl ?_)
          | (refine op_skip rfl rfl (by simp [undef]) rfl ?_)
        first
          | (refine op_want rfl rfl ?_
             refine op_v (v_pickt rfl rfl) rfl ?_)
          | (refine op_skip rfl rfl (by simp [undef]) rfl ?_)
        refine op_want rfl rfl ?_
        refine op_v (v_not rfl) rfl ?_
        refine op_v (v_pickt rfl rfl) rfl ?_
        refine op_v (v_assign rfl) rfl ?_
        refine ops_nil ?_
        refine post_next ?_
        refine code_ret ?_
        refine post_ret (rs := [.tmp 6]) rfl (List.Perm.refl _) (.cons (.tmp rfl) .nil) (List.Sublist.refl _) ?_
        exact ⟨by rw [show undB gs c[k] c[i] true = true from by simp [undB, h26, h32]]; rfl, rfl⟩
    · have hst' : s = false := by simpa using hst
      subst hst'
      refine op_want rfl rfl ?_
      refine op_v (v_loadA ty4 rfl rfl) rfl ?_
      refine op_want rfl rfl ?_
      refine op_v (v_move rfl) rfl ?_
      refine op_skip rfl rfl (by simp [undef]) rfl ?_
      refine op_skip rfl rfl (by simp [undef]) rfl ?_
      first
        | (refine op_want rfl rfl ?_
           refine op_v (v_pickf rfl rfl) rfl ?_)
        | (refine op_skip rfl rfl (by simp [undef]) rfl ?_)
      refine op_want rfl rfl ?_
      refine op_v (v_not rfl) rfl ?_
      refine op_v (v_pickt rfl rfl) rfl ?_
      refine op_v (v_assign rfl) rfl ?_
      refine ops_nil ?_
      refine post_next ?_
      refine code_ret ?_
      refine post_ret (rs := [.tmp 6]) rfl (List.Perm.refl _) (.cons (.tmp rfl) .nil) (List.Sublist.refl _) ?_
      exact ⟨by rw [show undB gs c[k] c[i] false = true from by simp [undB, h26]]; rfl, rfl⟩
  · first
      | (refine op_want rfl rfl ?_
         refine op_v (v_cmpfA rfl rfl rfl) rfl ?_)
      | (refine op_skip rfl rfl (by simp [undef]) rfl ?_)
    refine op_v (v_pickt rfl rfl) rfl ?_
    refine op_v (v_move rfl) rfl ?_
    refine op_skip rfl rfl (by simp [undef]) rfl ?_
    refine op_skip rfl rfl (by simp [undef]) rfl ?_
    refine op_skip rfl rfl (by simp [undef]) rfl ?_
    refine op_skip rfl rfl (by simp [undef]) rfl ?_
    refine op_skip rfl rfl (by simp [undef]) rfl ?_
    refine op_skip rfl rfl (by simp [undef]) rfl ?_
    refine op_v (v_pickf rfl rfl) rfl ?_
    refine op_v (v_assign rfl) rfl ?_
    refine ops_nil ?_
    refine post_next ?_
    refine code_ret ?_
    refine post_ret (rs := [.tmp 6]) rfl (List.Perm.refl _) (.cons (.tmp rfl) .nil) (List.Sublist.refl _) ?_
    exact ⟨by have e : mulG gs (rowL c[k]) (rowL c[i]) = 1 := Classical.not_not.1 h26; rw [show undB gs c[k] c[i] s = false from by simp [undB, e]]; rfl, rfl⟩
theorem top_does {I : Imm} {vg va : Value} {gs : List Sy} {c : List Li} {s : Bool} {i : Nat} (hg : RepG I vg gs) (hv : RepC I va c) (hsm : SmC c) (hchk : chkC gs c = 0) (hi : i < c.length) :
    Does Tryz.prog 26 [vg, va, .int .i64 i, .bool s] I [] (fun v _ δ' => v = .bool (topG gs c i s) ∧ δ' = []) := by
  obtain ⟨ga, gc, hsg⟩ := hg.shape
  subst hsg
  obtain ⟨ad, c0, hsh⟩ := RepE.shape hv
  subst hsh
  have hb := hv.small
  refine Does.intro Tryz.func26 rfl Tryz.ntmps26 rfl fun w0 => ?_
  refine code_seq ?_
  refine code_region ?_
  refine o_box rfl rfl rfl (fun b4 => ?_)
  refine o_box rfl rfl rfl (fun b5 => ?_)
  refine o_box rfl rfl rfl (fun b6 => ?_)
  refine o_box rfl rfl rfl (fun b7 => ?_)
  refine op_v (v_assign rfl) rfl ?_
  refine ops_nil ?_
  refine post_next ?_
  refine code_seq ?_
  refine code_region ?_
  refine op_v (v_makeFunc rfl rfl) rfl ?_
  refine op_v (v_assign rfl) rfl ?_
  refine ops_nil ?_
  refine post_next ?_
  refine code_seq ?_
  refine code_seq ?_
  refine code_region ?_
  refine op_v (v_loadA ty23 rfl rfl) rfl ?_
  refine op_v (v_len Tryz.underlying23 rfl) rfl ?_
  refine op_v (v_move rfl) rfl ?_
  refine ops_nil ?_
  refine post_next ?_
  refine code_block ?_
  refine code_loop (fun m σ' I' δ' => ∃ k : Nat, m = c.length - k ∧ k ≤ c.length ∧ σ' = [(6, .pointer (some ⟨b6, 0, none⟩)), (9, .func (.func 69) #[] #[.pointer (some ⟨b4, 0, none⟩), .pointer (some ⟨b5, 0, none⟩), .pointer (some ⟨b6, 0, none⟩), .pointer (some ⟨b7, 0, none⟩)]), (13, .int .i64 c.length), (14, .int .i64 k)] ∧ I.le I' ∧ δ' = [.box b7 4 [.bool s], .box b6 3 [.int .i64 i], .box b5 23 [.slice ad c.length c0], .box b4 22 [.slice ga gs.length gc]] ∧ ∀ j (h : j < c.length), j < k → j = i ∨ undB gs c[j] c[i] s = true) c.length [(6, .pointer (some ⟨b6, 0, none⟩)), (9, .func (.func 69) #[] #[.pointer (some ⟨b4, 0, none⟩), .pointer (some ⟨b5, 0, none⟩), .pointer (some ⟨b6, 0, none⟩), .pointer (some ⟨b7, 0, none⟩)]), (13, .int .i64 c.length), (14, .int .i64 (0 : Nat))] ⟨0, rfl, Nat.zero_le _, rfl, Imm.le_refl _, rfl, fun j _ h => by omega⟩ ⟨rfl, rfl, rfl, rfl, trivial⟩ ?_
  rintro m _ I0 _ ⟨k, rfl, hk, rfl, hI0, rfl, hall⟩
  refine code_seq ?_
  refine code_region ?_
  refine op_v (v_cmp rfl rfl rfl) rfl ?_
  refine ops_nil ?_
  refine post_next ?_
  refine code_seq ?_
  refine code_cond rfl (fun hc0 => ?_) (fun hc0 => ?_)
  · have hlt : k < c.length := by simpa using hc0
    refine code_skip ?_
    refine post_next ?_
    refine code_seq ?_
    refine code_block ?_
    refine code_seq ?_
    refine code_region ?_
    refine op_v (v_move rfl) rfl ?_
    refine op_v (v_assign rfl) rfl ?_
    refine ops_nil ?_
    refine post_next ?_
    refine code_seq ?_
    refine code_region ?_
    refine op_v (v_move rfl) rfl ?_
    refine op_v (v_loadA ty3 rfl rfl) rfl ?_
    by_cases h19 : k ≠ i
    · refine op_v (v_cmptA rfl rfl rfl) rfl ?_
      refine op_v (v_move rfl) rfl ?_
      refine op_want rfl rfl ?_
      refine op_v (v_move rfl) rfl ?_
      refine op_want rfl rfl ?_
      refine op_v (v_move rfl) rfl ?_
      refine op_want rfl rfl ?_
      refine op_fcall rfl rfl rfl ((FDoes.ofFunc (args := [_]) (caps := [_, _, _, _]) pl69 (top1_does (hg.mono hI0) (hv.mono hI0) hsm hchk hi hlt))) Parts.all ?_
      rintro v23 I23 _ hI23 ⟨rfl, rfl⟩
      rw [List.append_nil]
      by_cases hu : undB gs c[k] c[i] s = true
      · rw [hu]
        refine op_want rfl rfl ?_
        refine op_v (v_not rfl) rfl ?_
        refine op_v (v_pickt rfl rfl) rfl ?_
        refine ops_nil ?_
        refine post_next ?_
        refine code_cond_f rfl ?_
        refine code_skip ?_
        refine post_out ?_
        refine post_next ?_
        refine code_region ?_
        refine op_v (v_addb rfl rfl rfl (by omega)) rfl ?_
        refine op_v (v_move rfl) rfl ?_
        refine ops_nil ?_
        refine post_again (c.length - (k + 1)) [(6, .pointer (some ⟨b6, 0, none⟩)), (9, .func (.func 69) #[] #[.pointer (some ⟨b4, 0, none⟩), .pointer (some ⟨b5, 0, none⟩), .pointer (some ⟨b6, 0, none⟩), .pointer (some ⟨b7, 0, none⟩)]), (13, .int .i64 c.length), (14, .int .i64 (k + 1 : Nat))] (by omega) ⟨k + 1, rfl, hlt, rfl, Imm.leA, rfl, fun j h hj => ?_⟩ ⟨rfl, rfl, rfl, rfl, trivial⟩
        rcases Nat.lt_or_ge j k with q | q
        · exact hall j h q
        · right
          have e : j = k := by omega
          subst e; exact hu
      · have hu' : undB gs c[k] c[i] s = false := by simpa using hu
        rw [hu']
        refine op_want rfl rfl ?_
        refine op_v (v_not rfl) rfl ?_
        refine op_v (v_pickt rfl rfl) rfl ?_
        refine ops_nil ?_
        refine post_next ?_
        refine code_cond_t rfl ?_
        refine code_seq ?_
        refine code_region ?_
        refine op_v (v_assign rfl) rfl ?_
        refine ops_nil ?_
        refine post_next ?_
        refine code_ret ?_
        refine post_ret_block ?_
        refine post_ret_then ?_
        refine post_ret_then ?_
        refine post_ret_block ?_
        refine post_ret_then ?_
        refine post_ret (rs := [.tmp 8]) rfl (List.Perm.refl _) (.cons (.tmp rfl) .nil) (List.nil_sublist _) ?_
        exact ⟨by rw [show topG gs c i s = false from by cases h : topG gs c i s; rfl; rcases (topG_iff hi).1 h k hlt with q | q; exact absurd q h19; exact absurd q hu]; rfl, rfl⟩
    · refine op_v (v_cmpfA rfl rfl rfl) rfl ?_
      refine op_v (v_move rfl) rfl ?_
      refine op_skip rfl rfl (by simp [undef]) rfl ?_
      refine op_skip rfl rfl (by simp [undef]) rfl ?_
      refine op_skip rfl rfl (by simp [undef]) rfl ?_
      refine op_skip rfl rfl (by simp [undef]) rfl ?_
      refine op_v (v_pickf rfl rfl) rfl ?_
      refine ops_nil ?_
      refine post_next ?_
      refine code_cond_f rfl ?_
      refine code_skip ?_
      refine post_out ?_
      refine post_next ?_
      refine code_region ?_
      refine op_v (v_addb rfl rfl rfl (by omega)) rfl ?_
      refine op_v (v_move rfl) rfl ?_
      refine ops_nil ?_
      refine post_again (c.length - (k + 1)) [(6, .pointer (some ⟨b6, 0, none⟩)), (9, .func (.func 69) #[] #[.pointer (some ⟨b4, 0, none⟩), .pointer (some ⟨b5, 0, none⟩), .pointer (some ⟨b6, 0, none⟩), .pointer (some ⟨b7, 0, none⟩)]), (13, .int .i64 c.length), (14, .int .i64 (k + 1 : Nat))] (by omega) ⟨k + 1, rfl, hlt, rfl, Imm.leA, rfl, fun j h hj => ?_⟩ ⟨rfl, rfl, rfl, rfl, trivial⟩
      rcases Nat.lt_or_ge j k with q | q
      · exact hall j h q
      · left; have := Classical.not_not.1 h19; omega
  · have hge : k = c.length := by simp at hc0; omega
    refine code_exit ?_
    refine post_exit_then ?_
    refine post_exit_then ?_
    refine post_exit ?_
    refine post_next ?_
    refine code_seq ?_
    refine code_region ?_
    refine op_v (v_assign rfl) rfl ?_
    refine ops_nil ?_
    refine post_next ?_
    refine code_ret ?_
    refine post_ret (rs := [.tmp 8]) rfl (List.Perm.refl _) (.cons (.tmp rfl) .nil) (List.nil_sublist _) ?_
    exact ⟨by rw [(topG_iff hi).2 fun j h => hall j h (by omega)]; rfl, rfl⟩
def maxE (gs : List Sy) (c : List Li) (i : Int) : Int := if chkC gs c ≠ 0 then chkC gs c else if i < 0 ∨ (c.length : Int) ≤ i then 1 else 0
def maxB (gs : List Sy) (c : List Li) (i : Int) (s : Bool) : Bool := if maxE gs c i = 0 then topG gs c i.toNat s else false
theorem Maximal_does {I : Imm} {vg va : Value} {gs : List Sy} {c : List Li} {s : Bool} {i : Int} (hg : RepG I vg gs) (hv : RepC I va c) (hsm : SmC c) :
    Does Tryz.prog 7 [vg, va, .int .i64 i, .bool s] I [] (fun v _ δ' => v = .tuple #[.bool (maxB gs c i s), .int .i64 (maxE gs c i)] ∧ δ' = []) := by
  obtain ⟨ad, c0, hsh⟩ := RepE.shape hv
  subst hsh
  have hb := hv.small
  refine Does.intro Tryz.func7 rfl Tryz.ntmps7 rfl fun w0 => ?_
  refine code_seq ?_
  refine code_region ?_
  refine op_v (v_assign rfl) rfl ?_
  refine op_v (v_assign rfl) rfl ?_
  refine ops_nil ?_
  refine post_next ?_
  refine code_seq ?_
  refine code_seq ?_
  refine code_region ?_
  refine op_v (v_move rfl) rfl ?_
  refine op_v (v_move rfl) rfl ?_
  refine op_call pl25 rfl rfl ((CCheck_does hg hv hsm)) Parts.none ?_
  rintro v13 I13 _ hI13 ⟨rfl, rfl⟩
  refine op_v (v_assign rfl) rfl ?_
  refine ops_nil ?_
  refine post_next ?_
  refine code_seq ?_
  refine code_region ?_
  refine op_v (v_move rfl) rfl ?_
  by_cases h15 : chkC gs c ≠ 0
  · have he : maxE gs c i = chkC gs c := if_pos h15
    refine op_v (v_cmptA rfl rfl rfl) rfl ?_
    refine ops_nil ?_
    refine post_next ?_
    refine code_cond_t rfl ?_
    refine code_seq ?_
    refine code_region ?_
    refine op_v (v_move rfl) rfl ?_
    refine op_v (v_assign rfl) rfl ?_
    refine op_v (v_assign rfl) rfl ?_
    refine ops_nil ?_
    refine post_next ?_
    refine code_ret ?_
    refine post_ret_then ?_
    refine post_ret (rs := [.tmp 8, .tmp 9]) rfl (List.Perm.refl _) (.cons (.tmp rfl) (.cons (.tmp rfl) .nil)) (List.nil_sublist _) ?_
    exact ⟨by unfold maxB; rw [he, if_neg h15]; rfl, rfl⟩
  · have hc : chkC gs c = 0 := Classical.not_not.1 h15
    refine op_v (v_cmpfA rfl rfl rfl) rfl ?_
    refine ops_nil ?_
    refine post_next ?_
    refine code_cond_f rfl ?_
    refine code_skip ?_
    refine post_next ?_
    refine code_seq ?_
    refine code_seq ?_
    refine code_region ?_
    refine op_v (v_move rfl) rfl ?_
    by_cases h18 : i < 0
    · have he : maxE gs c i = 1 := by unfold maxE; rw [if_neg h15, if_pos (.inl h18)]
      refine op_v (v_cmptA rfl rfl rfl) rfl ?_
      refine op_v (v_move rfl) rfl ?_
      refine op_skip rfl rfl (by simp [undef]) rfl ?_
      refine op_skip rfl rfl (by simp [undef]) rfl ?_
      refine op_skip rfl rfl (by simp [undef]) rfl ?_
      refine op_skip rfl rfl (by simp [undef]) rfl ?_
      refine op_v (v_pickt rfl rfl) rfl ?_
      refine ops_nil ?_
      refine post_next ?_
      refine code_cond_t rfl ?_
      refine code_seq ?_
      refine code_region ?_
      refine op_v (v_assign rfl) rfl ?_
      refine op_v (v_assign rfl) rfl ?_
      refine ops_nil ?_
      refine post_next ?_
      refine code_ret ?_
      refine post_ret_then ?_
      refine post_ret (rs := [.tmp 8, .tmp 9]) rfl (List.Perm.refl _) (.cons (.tmp rfl) (.cons (.tmp rfl) .nil)) (List.nil_sublist _) ?_
      exact ⟨by unfold maxB; rw [he, if_neg (by decide)]; rfl, rfl⟩
    · refine op_v (v_cmpfA rfl rfl rfl) rfl ?_
      refine op_v (v_move rfl) rfl ?_
      refine op_want rfl rfl ?_
      refine op_v (v_move rfl) rfl ?_
      refine op_want rfl rfl ?_
      refine op_v (v_move rfl) rfl ?_
      refine op_want rfl rfl ?_
      refine op_v (v_len Tryz.underlying23 rfl) rfl ?_
      by_cases h23 : (c.length : Int) ≤ i
      · have he : maxE gs c i = 1 := by unfold maxE; rw [if_neg h15, if_pos (.inr h23)]
        first
          | (refine op_want rfl rfl ?_
             refine op_v (v_cmptA rfl rfl rfl) rfl ?_)
          | (refine op_skip rfl rfl (by simp [undef]) rfl ?_)
        refine op_v (v_pickf rfl rfl) rfl ?_
        refine ops_nil ?_
        refine post_next ?_
        refine code_cond_t rfl ?_
        refine code_seq ?_
        refine code_region ?_
        refine op_v (v_assign rfl) rfl ?_
        refine op_v (v_assign rfl) rfl ?_
        refine ops_nil ?_
        refine post_next ?_
        refine code_ret ?_
        refine post_ret_then ?_
        refine post_ret (rs := [.tmp 8, .tmp 9]) rfl (List.Perm.refl _) (.cons (.tmp rfl) (.cons (.tmp rfl) .nil)) (List.nil_sublist _) ?_
        exact ⟨by unfold maxB; rw [he, if_neg (by decide)]; rfl, rfl⟩
      · have he : maxE gs c i = 0 := by unfold maxE; rw [if_neg h15, if_neg (fun h => by rcases h with h | h; exact h18 h; exact h23 h)]
        obtain ⟨n, hn⟩ := Int.eq_ofNat_of_zero_le (show 0 ≤ i by omega)
        subst hn
        first
          | (refine op_want rfl rfl ?_
             refine op_v (v_cmpfA rfl rfl rfl) rfl ?_)
          | (refine op_skip rfl rfl (by simp [undef]) rfl ?_)
        refine op_v (v_pickf rfl rfl) rfl ?_
        refine ops_nil ?_
        refine post_next ?_
        refine code_cond_f rfl ?_
        refine code_skip ?_
        refine post_next ?_
        refine code_seq ?_
        refine code_region ?_
        refine op_v (v_move rfl) rfl ?_
        refine op_v (v_move rfl) rfl ?_
        refine op_v (v_move rfl) rfl ?_
        refine op_v (v_move rfl) rfl ?_
        refine op_call pl26 rfl rfl ((top_does (i := n) (hg.mono Imm.leA) (hv.mono Imm.leA) hsm hc (by omega))) Parts.none ?_
        rintro v29 I29 _ hI29 ⟨rfl, rfl⟩
        refine op_v (v_assign rfl) rfl ?_
        refine op_v (v_assign rfl) rfl ?_
        refine ops_nil ?_
        refine post_next ?_
        refine code_ret ?_
        refine post_ret (rs := [.tmp 8, .tmp 9]) rfl (List.Perm.refl _) (.cons (.tmp rfl) (.cons (.tmp rfl) .nil)) (List.nil_sublist _) ?_
        exact ⟨by unfold maxB; rw [he, if_pos rfl]; rfl, rfl⟩
end Go.Proofs.YtdbadicpbmndbaaGreat
/- What is selected, what may play a part: plainly, and walks. -/
set_option linter.unusedVariables false
set_option linter.unusedSimpArgs false
set_option linter.unnecessarySimpa false
/- short -/
namespace Go.Proofs.YtdbadicpbmndbaaGreat
open Go Lg

theorem Lg.v_indexArr {C : Ctx} {σ : Env} {ds : List Nat} {I : Imm} {δ : List Ent} {t e : TypeId} {x y : Operand} {b n i size : Nat} (ht : C.P.underlying t = some (.array n e)) (hsz : (C.P.info? e).map (·.size) = some size)
    (hx : evS σ x = some (.pointer (some ⟨b, 0, none⟩))) (hy : evS σ y = some (.int .i64 (i : Int))) (hi : i < n) : ValJ C σ ds I δ (.indexAddr t x y) (.pointer (some ⟨b, i * size, none⟩)) :=
  fun _ _ _ _ _ => (fun a w he _ => by
    have hu : (underlying t).run C.P w = .ok (.array n e) w := by simp [underlying, program, Sem.run, ht]
    cases hq : C.P.info? e with
    | none => simp [hq] at hsz
    | some inf =>
      simp [hq] at hsz
      simp [execOp, he.ev hx, he.ev hy, Instr.indexAt, asIntOf, hu, Instr.sureAddr, sizeOf, typeInfo, program, Sem.run, hq, hsz, Addr.add]
      split
      · simp; intro q; exact q.symm
      · omega)
/-! ### plain -/
def litW (gs : List Sy) (x : Li) : Int := IntKind.i64.wrap ((if termG gs x.l = 0 then wgtG gs x.l else 0) + (if termG gs x.r = 0 then wgtG gs x.r else 0))
def pickG (gs : List Sy) (c : List Li) (how : Int) : Nat → Option Nat
  | 0 => none
  | k + 1 => if (c.getD k zeroLi).neg = false ∨ how = 0 then pickG gs c how k else match pickG gs c how k with
    | none => some k
    | some j => if how = 2 ∧ litW gs (c.getD j zeroLi) < litW gs (c.getD k zeroLi) then some k else some j
def selO : Option Nat → List Int
  | none => []
  | some j => [(j : Int)]
def selG (gs : List Sy) (c : List Li) (how : Int) : List Int := selO (pickG gs c how c.length)
theorem getD_at {c : List Li} {k : Nat} (h : k < c.length) : c.getD k zeroLi = c[k] := by rw [List.getD_eq_getElem?_getD, List.getElem?_eq_getElem h]; rfl
theorem pickG_zero (gs : List Sy) (c : List Li) : ∀ k, pickG gs c 0 k = none
  | 0 => rfl
  | k + 1 => by simp only [pickG]; rw [if_pos (.inr trivial)]; exact pickG_zero gs c k
theorem pickG_neg (gs : List Sy) (c : List Li) (how : Int) : ∀ k j, pickG gs c how k = some j → j < k ∧ (c.getD j zeroLi).neg = true
  | 0, j, h => by cases h
  | k + 1, j, h => by
    simp only [pickG] at h
    split at h
    · have := pickG_neg gs c how k j h; exact ⟨by omega, this.2⟩
    · rename_i hn
      have hk : (c.getD k zeroLi).neg = true := by
        cases q : (c.getD k zeroLi).neg
        · exact absurd (.inl q) hn
        · rfl
      split at h
      · cases h; exact ⟨by omega, hk⟩
      · rename_i i hi
        split at h
        · cases h; exact ⟨by omega, hk⟩
        · cases h
          have := pickG_neg gs c how k j hi; exact ⟨by omega, this.2⟩
theorem pickG_none {gs : List Sy} {c : List Li} {how : Int} (h0 : how ≠ 0) : ∀ k, k ≤ c.length → (pickG gs c how k = none ↔ (c.take k).any (·.neg) = false)
  | 0, _ => by simp [pickG]
  | k + 1, hk => by
    have ih := pickG_none (gs := gs) (c := c) h0 k (by omega)
    rw [List.take_succ_eq_append_getElem (by omega), List.any_append]
    simp only [pickG]
    rw [getD_at (by omega : k < c.length)]
    split
    · rename_i h
      have hn : c[k].neg = false := by rcases h with h | h; exact h; exact absurd h h0
      rw [ih]; simp [hn]
    · rename_i h
      have hn : c[k].neg = true := by
        cases q : c[k].neg
        · exact absurd (.inl q) h
        · rfl
      simp only [List.any_cons, hn]
      split
      · simp
      · split <;> simp
def firstN (c : List Li) : List Int := if c.any (·.neg) = true then [((c.findIdx (·.neg) : Nat) : Int)] else []
theorem pickG_first {gs : List Sy} {c : List Li} : ∀ k, k ≤ c.length → pickG gs c 1 k = if (c.take k).any (·.neg) = true then some (c.findIdx (·.neg)) else none
  | 0, _ => by simp [pickG]
  | k + 1, hk => by
    have ih := pickG_first (gs := gs) (c := c) k (by omega)
    have hkl : k < c.length := by omega
    rw [List.take_succ_eq_append_getElem hkl, List.any_append]
    simp only [pickG]
    rw [getD_at hkl, ih]
    cases hn : c[k].neg with
    | false => rw [if_pos (.inl rfl)]; simp [hn]
    | true =>
      rw [if_neg (by simp)]
      by_cases q : (c.take k).any (·.neg) = true
      · rw [if_pos q]
        simp only
        rw [if_neg (by simp), if_pos (by simp [q])]
      · rw [if_neg q]
        simp only
        rw [if_pos (by simp [hn])]
        congr 1
        have q' : (c.take k).any (·.neg) = false := by simpa using q
        refine ((List.findIdx_eq hkl).2 ⟨hn, fun j hj => ?_⟩).symm
        have := List.any_eq_false.1 q' c[j] (List.mem_take_iff_getElem.2 ⟨j, by omega, rfl⟩)
        simpa using this
theorem selG_first (gs : List Sy) (c : List Li) : selG gs c 1 = firstN c := by
  unfold selG firstN
  rw [pickG_first c.length (Nat.le_refl _), List.take_length]
  split <;> rfl
/-- what the heavy way holds behind so many -/
def bestL (gs : List Sy) (c : List Li) (k : Nat) : List Int := match pickG gs c 2 k with
  | none => firstN c
  | some j => [(j : Int)]
theorem bestL_end (gs : List Sy) (c : List Li) : bestL gs c c.length = selG gs c 2 := by
  unfold bestL selG
  cases h : pickG gs c 2 c.length with
  | some j => rfl
  | none =>
    have := (pickG_none (gs := gs) (by decide) c.length (Nat.le_refl _)).1 h
    rw [List.take_length] at this
    show firstN c = []
    unfold firstN; rw [this]; rfl
theorem bestL_skip {gs : List Sy} {c : List Li} {k : Nat} (hk : k < c.length) (h : c[k].neg = false) : bestL gs c (k + 1) = bestL gs c k := by
  have e : pickG gs c 2 (k + 1) = pickG gs c 2 k := by simp only [pickG]; rw [getD_at hk, if_pos (.inl h)]
  unfold bestL; rw [e]
theorem bestL_neg {gs : List Sy} {c : List Li} {k : Nat} (hk : k < c.length) (h : c[k].neg = true) : ∃ (j : Nat) (hj : j < c.length), bestL gs c k = [(j : Int)] ∧ bestL gs c (k + 1) = if litW gs c[j] < litW gs c[k] then [(k : Int)] else [(j : Int)] := by
  have e : pickG gs c 2 (k + 1) = match pickG gs c 2 k with
      | none => some k
      | some j => if litW gs (c.getD j zeroLi) < litW gs c[k] then some k else some j := by
    simp only [pickG]; rw [getD_at hk, if_neg (by simp [h])]
    simp only [true_and]
  cases hp : pickG gs c 2 k with
  | some j =>
    have hj := pickG_neg gs c 2 k j hp
    rw [hp] at e
    simp only at e
    have hjl : j < c.length := by omega
    rw [getD_at hjl] at e
    refine ⟨j, hjl, by unfold bestL; rw [hp], ?_⟩
    unfold bestL; rw [e]
    by_cases q : litW gs c[j] < litW gs c[k]
    · rw [if_pos q, if_pos q]
    · rw [if_neg q, if_neg q]
  | none =>
    rw [hp] at e
    simp only at e
    have hno := (pickG_none (gs := gs) (by decide) k (by omega)).1 hp
    have hf : c.findIdx (·.neg) = k := (List.findIdx_eq hk).2 ⟨h, fun j hj => by
      have := List.any_eq_false.1 hno c[j] (List.mem_take_iff_getElem.2 ⟨j, by omega, rfl⟩)
      simpa using this⟩
    have ha : c.any (·.neg) = true := List.any_eq_true.2 ⟨c[k], List.getElem_mem hk, h⟩
    refine ⟨k, hk, by unfold bestL; rw [hp]; show firstN c = _; unfold firstN; rw [if_pos ha, hf], ?_⟩
    unfold bestL; rw [e, if_neg (by omega)]
/-! ### walks -/
theorem weightL_does {I : Imm} {vg va : Value} {gs : List Sy} {x : Li} (hg : RepG I vg gs) (ha : RepL I va x) (h1 : x.l.size ≤ 1000000000) (h2 : x.r.size ≤ 1000000000) :
    Does Tryz.prog 75 [vg, va] I [] (fun v _ δ' => v = .int .i64 (litW gs x) ∧ δ' = []) := by
  obtain ⟨la, lc, ra, rc, rfl, hl, hr⟩ := ha
  refine Does.intro Tryz.func75 rfl Tryz.ntmps75 rfl fun w0 => ?_
  refine code_seq ?_
  refine code_region ?_
  refine o_box rfl rfl rfl (fun b3 => ?_)
  refine op_v (v_assign rfl) rfl ?_
  refine ops_nil ?_
  refine post_next ?_
  refine code_seq ?_
  refine code_region ?_
  refine op_v (v_move rfl) rfl ?_
  refine op_v (v_fieldB 1 Tryz.underlying59 rfl rfl fz48 rfl) rfl ?_
  refine op_v (v_loadA ty48 rfl rfl) rfl ?_
  refine op_call pl119 rfl rfl ((GWeight_does (hg.mono Imm.leA) (hl.mono Imm.leA) h1)) Parts.none ?_
  rintro v13 I13 _ hI13 ⟨rfl, rfl⟩
  refine op_v (v_move rfl) rfl ?_
  refine op_v (v_extract rfl rfl) rfl ?_
  refine op_v (v_extract rfl rfl) rfl ?_
  refine op_v (v_assign rfl) rfl ?_
  refine op_v (v_assign rfl) rfl ?_
  refine ops_nil ?_
  refine post_next ?_
  refine code_seq ?_
  refine code_region ?_
  refine op_v (v_move rfl) rfl ?_
  refine op_v (v_fieldB 3 Tryz.underlying59 rfl rfl fz48 rfl) rfl ?_
  refine op_v (v_loadA ty48 rfl rfl) rfl ?_
  refine op_call pl119 rfl rfl ((GWeight_does (hg.mono Imm.leA) (hr.mono Imm.leA) h2)) Parts.none ?_
  rintro v20 I20 _ hI20 ⟨rfl, rfl⟩
  refine op_v (v_move rfl) rfl ?_
  refine op_v (v_extract rfl rfl) rfl ?_
  refine op_v (v_extract rfl rfl) rfl ?_
  refine op_v (v_assign rfl) rfl ?_
  refine op_v (v_assign rfl) rfl ?_
  refine ops_nil ?_
  refine post_next ?_
  refine code_seq ?_
  refine code_region ?_
  refine op_v (v_move rfl) rfl ?_
  refine op_v (v_move rfl) rfl ?_
  refine op_v (v_add rfl rfl) rfl ?_
  refine op_v (v_assign rfl) rfl ?_
  refine ops_nil ?_
  refine post_next ?_
  refine code_ret ?_
  refine post_ret (rs := [.tmp 4]) rfl (List.Perm.refl _) (.cons (.tmp rfl) .nil) (List.nil_sublist _) ?_
  exact ⟨rfl, rfl⟩
theorem none_does {I : Imm} {vg va : Value} {gs : List Sy} {c : List Li} :
    Does Tryz.prog 29 [vg, va] I [] (fun v I' δ' => RInts I' v (selG gs c 0) ∧ δ' = []) := by
  refine Does.intro Tryz.func29 rfl Tryz.ntmps29 rfl fun w0 => ?_
  refine code_seq ?_
  refine code_region ?_
  refine op_v (v_assign rfl) rfl ?_
  refine ops_nil ?_
  refine post_next ?_
  refine code_seq ?_
  refine code_region ?_
  refine op_v (v_assign rfl) rfl ?_
  refine ops_nil ?_
  refine post_next ?_
  refine code_ret ?_
  refine post_ret (rs := [.tmp 4]) rfl (List.Perm.refl _) (.cons (.tmp rfl) .nil) (List.nil_sublist _) ?_
  exact ⟨by unfold selG; rw [pickG_zero]; exact RInts.nil _, rfl⟩
theorem first1_does {I : Imm} {x : Li} {ux : List Value} (hx : LitE.R I x ux) :
    Does Tryz.prog 74 [.agg ux.toArray] I [] (fun v _ δ' => v = .bool x.neg ∧ δ' = []) := by
  obtain ⟨la, lc, ra, rc, rfl, _, _⟩ := hx
  refine Does.intro Tryz.func74 rfl Tryz.ntmps74 rfl fun w0 => ?_
  refine code_seq ?_
  refine code_region ?_
  refine o_box rfl rfl rfl (fun b1 => ?_)
  refine op_v (v_assign rfl) rfl ?_
  refine ops_nil ?_
  refine post_next ?_
  refine code_seq ?_
  refine code_region ?_
  refine op_v (v_fieldB 0 Tryz.underlying59 rfl rfl fz4 rfl) rfl ?_
  refine op_v (v_loadA ty4 rfl rfl) rfl ?_
  refine op_v (v_assign rfl) rfl ?_
  refine ops_nil ?_
  refine post_next ?_
  refine code_ret ?_
  refine post_ret (rs := [.tmp 2]) rfl (List.Perm.refl _) (.cons (.tmp rfl) .nil) (List.nil_sublist _) ?_
  exact ⟨rfl, rfl⟩
theorem first_doesM {I : Imm} {vg va : Value} {c : List Li} (hv : RepC I va c) :
    Does Tryz.prog 30 [vg, va] I [] (fun v I' δ' => RInts I' v (firstN c) ∧ δ' = []) := by
  have hb := hv.small
  refine Does.intro Tryz.func30 rfl Tryz.ntmps30 rfl fun w0 => ?_
  refine code_seq ?_
  refine code_region ?_
  refine op_v (v_assign rfl) rfl ?_
  refine ops_nil ?_
  refine post_next ?_
  refine code_seq ?_
  refine code_region ?_
  refine op_v (v_move rfl) rfl ?_
  refine op_call pl73 rfl rfl ((IdxC_does (p := fun x => x.neg) hv (fun J x u hJ hu hx => Does.toF (args := [_]) (by kernel_rfl) (first1_does hu)))) Parts.none ?_
  rintro v7 I7 _ hI7 ⟨⟨n, rfl, hn⟩, rfl⟩
  refine op_v (v_assign rfl) rfl ?_
  refine ops_nil ?_
  refine post_next ?_
  refine code_seq ?_
  refine code_seq ?_
  refine code_region ?_
  refine op_v (v_move rfl) rfl ?_
  by_cases h9 : n < 0
  · have he : firstN c = [] := by
      rcases hn with ⟨_, h⟩ | ⟨j, hj, e, _⟩
      · unfold firstN; rw [h]; rfl
      · omega
    refine op_v (v_cmptA rfl rfl rfl) rfl ?_
    refine ops_nil ?_
    refine post_next ?_
    refine code_cond_t rfl ?_
    refine code_seq ?_
    refine code_region ?_
    refine op_v (v_assign rfl) rfl ?_
    refine ops_nil ?_
    refine post_next ?_
    refine code_ret ?_
    refine post_ret_then ?_
    refine post_ret (rs := [.tmp 4]) rfl (List.Perm.refl _) (.cons (.tmp rfl) .nil) (List.nil_sublist _) ?_
    exact ⟨by rw [he]; exact RInts.nil _, rfl⟩
  · have he : firstN c = [n] ∧ InR n := by
      rcases hn with ⟨e, h⟩ | ⟨j, hj, rfl, hp, hno⟩
      · omega
      · have hf : c.findIdx (·.neg) = j := (List.findIdx_eq hj).2 ⟨hp, fun i hi => by
          have := List.any_eq_false.1 hno c[i] (List.mem_take_iff_getElem.2 ⟨i, by omega, rfl⟩)
          simpa using this⟩
        exact ⟨by unfold firstN; rw [if_pos (List.any_eq_true.2 ⟨c[j], List.getElem_mem hj, hp⟩), hf], by unfold InR; omega⟩
    refine op_v (v_cmpfA rfl rfl rfl) rfl ?_
    refine ops_nil ?_
    refine post_next ?_
    refine code_cond_f rfl ?_
    refine code_skip ?_
    refine post_next ?_
    refine code_seq ?_
    refine code_region ?_
    refine op_v (v_move rfl) rfl ?_
    refine o_buildSlice (xs := [(Go.Operand.tmp 10)]) Tryz.underlying30 bs3 rfl rfl rfl rfl rfl (fun b11 => ?_)
    refine OpsJ.freezeRow Del.here ?_
    rintro I11 a11 c11 hI11 hq hc11 hl11 hcells11
    cases hq
    refine op_v (v_assign rfl) rfl ?_
    refine ops_nil ?_
    refine post_next ?_
    refine code_ret ?_
    refine post_ret (rs := [.tmp 4]) rfl (List.Perm.refl _) (.cons (.tmp rfl) .nil) (List.nil_sublist _) ?_
    exact ⟨by rw [he.1]; exact RInts.of rfl hc11 (by decide) hcells11 (by intro x hx; simp at hx; subst hx; exact he.2), rfl⟩
theorem heavy_does {I : Imm} {vg va : Value} {gs : List Sy} {c : List Li} (hg : RepG I vg gs) (hv : RepC I va c) (hsm : SmC c) :
    Does Tryz.prog 31 [vg, va] I [] (fun v I' δ' => RInts I' v (selG gs c 2) ∧ δ' = []) := by
  obtain ⟨ad, c0, xs, rfl, hc, hb, hcells, hrow⟩ := id hv
  refine Does.intro Tryz.func31 rfl Tryz.ntmps31 rfl fun w0 => ?_
  refine code_seq ?_
  refine code_region ?_
  refine op_v (v_assign rfl) rfl ?_
  refine ops_nil ?_
  refine post_next ?_
  refine code_seq ?_
  refine code_region ?_
  refine op_v (v_move rfl) rfl ?_
  refine op_v (v_move rfl) rfl ?_
  refine op_call pl30 rfl rfl ((first_doesM hv)) Parts.none ?_
  rintro v10 I10 _ hI10 ⟨hv10, rfl⟩
  refine op_v (v_assign rfl) rfl ?_
  refine ops_nil ?_
  refine post_next ?_
  refine code_seq ?_
  refine code_seq ?_
  refine code_region ?_
  refine op_v (v_move rfl) rfl ?_
  refine op_v (v_len Tryz.underlying23 rfl) rfl ?_
  refine op_v (v_move rfl) rfl ?_
  refine ops_nil ?_
  refine post_next ?_
  refine code_block ?_
  refine code_loop (fun m σ' I' δ' => ∃ (k : Nat) (vb : Value), m = c.length - k ∧ k ≤ c.length ∧ σ' = [(0, vg), (1, .slice ad c.length c0), (5, vb), (11, .slice ad c.length c0), (12, .int .i64 c.length), (13, .int .i64 k)] ∧ I10.le I' ∧ δ' = [] ∧ RInts I' vb (bestL gs c k)) c.length [(0, vg), (1, .slice ad c.length c0), (5, v10), (11, .slice ad c.length c0), (12, .int .i64 c.length), (13, .int .i64 (0 : Nat))] ⟨0, v10, rfl, Nat.zero_le _, rfl, Imm.le_refl _, rfl, hv10⟩ ⟨rfl, rfl, rfl, rfl, rfl, rfl, trivial⟩ ?_
  rintro m _ I0 _ ⟨k, vb, rfl, hk, rfl, hI0, rfl, hvb⟩
  refine code_seq ?_
  refine code_region ?_
  refine op_v (v_cmp rfl rfl rfl) rfl ?_
  refine ops_nil ?_
  refine post_next ?_
  refine code_seq ?_
  refine code_cond rfl (fun hc0 => ?_) (fun hc0 => ?_)
  · have hlt : k < c.length := by simpa using hc0
    obtain ⟨vs, ⟨la, lc, ra, rc, rfl, hl, hr⟩, hat⟩ := hrow.cellsAt hcells hlt
    have hs1 := hat.isSome
    have hsk := hsm.at hlt
    refine code_skip ?_
    refine post_next ?_
    refine code_seq ?_
    refine code_block ?_
    refine code_seq ?_
    refine code_region ?_
    refine op_v (v_move rfl) rfl ?_
    refine op_v (v_indexA Tryz.underlying23 sz59 rfl rfl) rfl ?_
    refine op_v (v_loadI0 ty59 (hat.mono Imm.leA) rfl rfl rfl) rfl ?_
    refine o_alloc z59 rfl rfl (fun b7 => ?_)
    refine op_v (v_assign rfl) rfl ?_
    refine o_store ty59 rfl rfl rfl rfl rfl (by repeat (first | exact Swap.here | apply Swap.there)) rfl ?_
    refine ops_nil ?_
    refine post_next ?_
    refine code_seq ?_
    refine code_draw (.fl 0 (.fl 1 (.fl 2 (.fl 3 (.fl 4 (.fl 6 (.fl 7 (.fl 8 (.fl 9 (.fl 10 (.fl 11 (.fl 12 (.ef 5 (.ef 13 (.fl 14 (.fl 15 .done)))))))))))))))) (fun _ => _) mixed (by kernel_rfl) (by kernel_rfl) (fun _ => (List.Sublist.refl _)) ?_
    refine e_fl rfl rfl (fun hs_ => PF.mk rfl (v_fieldB 0 Tryz.underlying59 rfl rfl fz4 rfl) hs_) ?_
    refine e_fl rfl rfl (fun hs_ => PF.mk rfl (v_loadA ty4 rfl rfl) hs_) ?_
    by_cases hn : c[k].neg = true
    · obtain ⟨j, hj, hb1, hb2⟩ := bestL_neg (gs := gs) hlt hn
      rw [hb1] at hvb
      obtain ⟨ba, bc, rfl⟩ := hvb.shape
      have hatj := hvb.atI 0 Nat.zero_lt_one
      have hsb := hatj.isSome
      obtain ⟨vj, ⟨ma, mc, na, nc, rfl, hjl, hjr⟩, hatc⟩ := hrow.cellsAt hcells hj
      have hsj := hsm.at hj
      refine e_fl rfl rfl (fun hs_ => PF.mk rfl (v_move (v := .bool true) (by show some (Value.bool c[k].neg) = _; rw [hn])) hs_) ?_
      refine e_fl rfl rfl (fun hs_ => PF.mkg rfl rfl rfl (v_move rfl) hs_) ?_
      refine e_fl rfl rfl (fun hs_ => PF.mkg rfl rfl rfl (v_loadA ty59 rfl rfl) hs_) ?_
      refine e_fl rfl rfl (fun hs_ => PF.mkg rfl rfl rfl (v_move rfl) hs_) ?_
      refine e_fl rfl rfl (fun hs_ => PF.mkg rfl rfl rfl (v_move rfl) hs_) ?_
      refine e_fl rfl rfl (fun hs_ => PF.mkg rfl rfl rfl (v_move rfl) hs_) ?_
      refine e_fl rfl rfl (fun hs_ => PF.mkg rfl rfl rfl (v_indexIA Tryz.underlying30 sz3 rfl rfl) hs_) ?_
      refine e_fl rfl rfl (fun hs_ => PF.mkg rfl rfl rfl (v_loadI0 ty3 (hatj.mono Imm.leA) rfl rfl rfl) hs_) ?_
      refine e_fl rfl rfl (fun hs_ => PF.mkg rfl rfl rfl (v_indexA Tryz.underlying23 sz59 rfl rfl) hs_) ?_
      refine e_fl rfl rfl (fun hs_ => PF.mkg rfl rfl rfl (v_loadI0 ty59 (hatc.mono Imm.leA) rfl rfl rfl) hs_) ?_
      refine e_eff rfl (by intro cs b hc; cases hc) (by intro c hc; cases hc) ?_
      refine op_want rfl rfl ?_
      refine op_call pl75 rfl rfl ((weightL_does (x := c[k]) (hg.mono Imm.leA) ⟨la, lc, ra, rc, rfl, hl.mono Imm.leA, hr.mono Imm.leA⟩ hsk.1 hsk.2)) Parts.none ?_
      rintro v23 I23 _ hI23 ⟨rfl, rfl⟩
      refine ops_nil ?_
      refine e_next rfl side_allA ?_
      refine e_eff rfl (by intro cs b hc; cases hc) (by intro c hc; cases hc) ?_
      refine op_want rfl rfl ?_
      refine op_call pl75 rfl rfl ((weightL_does (x := c[j]) (hg.mono Imm.leA) ⟨ma, mc, na, nc, rfl, hjl.mono Imm.leA, hjr.mono Imm.leA⟩ hsj.1 hsj.2)) Parts.none ?_
      rintro v31 I31 _ hI31 ⟨rfl, rfl⟩
      refine ops_nil ?_
      refine e_next rfl side_allA ?_
      by_cases h32 : litW gs c[j] < litW gs c[k]
      · rw [if_pos h32] at hb2
        refine e_fl rfl rfl (fun hs_ => PF.mkg rfl rfl rfl (v_cmpt rfl rfl rfl h32) hs_) ?_
        refine e_fl rfl rfl (fun hs_ => PF.mk rfl (v_pickt rfl rfl) hs_) ?_
        refine e_done ?_
        refine post_next ?_
        refine code_cond_t rfl ?_
        refine code_region ?_
        refine op_v (v_move rfl) rfl ?_
        refine o_buildSlice (xs := [(Go.Operand.tmp 34)]) Tryz.underlying30 bs3 rfl rfl rfl rfl rfl (fun b35 => ?_)
        refine op_v (v_assign rfl) rfl ?_
        refine ops_nil ?_
        refine post_out ?_
        refine post_next ?_
        refine code_region ?_
        refine OpsJ.freezeRow Del.here ?_
        rintro I36 a36 c36 hI36 hq hc36 hl36 hcells36
        cases hq
        refine op_v (v_addb rfl rfl rfl (by omega)) rfl ?_
        refine op_v (v_move rfl) rfl ?_
        refine ops_nil ?_
        refine PostJ.view (View.drop Del.here) ?_
        refine post_again (c.length - (k + 1)) [(0, vg), (1, .slice ad c.length c0), (5, .slice (some ⟨b35, 0, none⟩) 1 1), (11, .slice ad c.length c0), (12, .int .i64 c.length), (13, .int .i64 (k + 1 : Nat))] (by omega) ⟨k + 1, .slice (some ⟨b35, 0, none⟩) 1 1, rfl, hlt, rfl, Imm.leA, rfl, by rw [hb2]; exact RInts.of rfl hc36 (by decide) hcells36 (by intro x hx; simp at hx; subst hx; unfold InR; omega)⟩ ⟨rfl, rfl, rfl, rfl, rfl, rfl, trivial⟩
      · rw [if_neg h32] at hb2
        refine e_fl rfl rfl (fun hs_ => PF.mkg rfl rfl rfl (v_cmpf rfl rfl rfl h32) hs_) ?_
        refine e_fl rfl rfl (fun hs_ => PF.mk rfl (v_pickt rfl rfl) hs_) ?_
        refine e_done ?_
        refine post_next ?_
        refine code_cond_f rfl ?_
        refine code_skip ?_
        refine post_out ?_
        refine post_next ?_
        refine code_region ?_
        refine op_v (v_addb rfl rfl rfl (by omega)) rfl ?_
        refine op_v (v_move rfl) rfl ?_
        refine ops_nil ?_
        refine PostJ.view (View.drop Del.here) ?_
        refine post_again (c.length - (k + 1)) [(0, vg), (1, .slice ad c.length c0), (5, .slice ba 1 bc), (11, .slice ad c.length c0), (12, .int .i64 c.length), (13, .int .i64 (k + 1 : Nat))] (by omega) ⟨k + 1, .slice ba 1 bc, rfl, hlt, rfl, Imm.leA, rfl, by rw [hb2]; exact hvb.mono Imm.leA⟩ ⟨rfl, rfl, rfl, rfl, rfl, rfl, trivial⟩
    · have hn' : c[k].neg = false := by simpa using hn
      have hb2 := bestL_skip (gs := gs) hlt hn'
      refine e_fl rfl rfl (fun hs_ => PF.mk rfl (v_move (v := .bool false) (by show some (Value.bool c[k].neg) = _; rw [hn'])) hs_) ?_
      refine e_fl rfl rfl (fun hs_ => PF.mks rfl (by intro c hc; cases hc) rfl rfl (by simp [undef]) hs_) ?_
      refine e_fl rfl rfl (fun hs_ => PF.mks rfl (by intro c hc; cases hc) rfl rfl (by simp [undef]) hs_) ?_
      refine e_fl rfl rfl (fun hs_ => PF.mks rfl (by intro c hc; cases hc) rfl rfl (by simp [undef]) hs_) ?_
      refine e_fl rfl rfl (fun hs_ => PF.mks rfl (by intro c hc; cases hc) rfl rfl (by simp [undef]) hs_) ?_
      refine e_fl rfl rfl (fun hs_ => PF.mks rfl (by intro c hc; cases hc) rfl rfl (by simp [undef]) hs_) ?_
      refine e_fl rfl rfl (fun hs_ => PF.mks rfl (by intro c hc; cases hc) rfl rfl (by simp [undef]) hs_) ?_
      refine e_fl rfl rfl (fun hs_ => PF.mks rfl (by intro c hc; cases hc) rfl rfl (by simp [undef]) hs_) ?_
      refine e_fl rfl rfl (fun hs_ => PF.mks rfl (by intro c hc; cases hc) rfl rfl (by simp [undef]) hs_) ?_
      refine e_fl rfl rfl (fun hs_ => PF.mks rfl (by intro c hc; cases hc) rfl rfl (by simp [undef]) hs_) ?_
      refine e_eff rfl (by intro cs b hc; cases hc) (by intro c hc; cases hc) ?_
      refine op_skip rfl rfl (by simp [undef]) rfl ?_
      refine ops_nil ?_
      refine e_next rfl side_allA ?_
      refine e_eff rfl (by intro cs b hc; cases hc) (by intro c hc; cases hc) ?_
      refine op_skip rfl rfl (by simp [undef]) rfl ?_
      refine ops_nil ?_
      refine e_next rfl side_allA ?_
      refine e_fl rfl rfl (fun hs_ => PF.mks rfl (by intro c hc; cases hc) rfl rfl (by simp [undef]) hs_) ?_
      refine e_fl rfl rfl (fun hs_ => PF.mk rfl (v_pickf rfl rfl) hs_) ?_
      refine e_done ?_
      refine post_next ?_
      refine code_cond_f rfl ?_
      refine code_skip ?_
      refine post_out ?_
      refine post_next ?_
      refine code_region ?_
      refine op_v (v_addb rfl rfl rfl (by omega)) rfl ?_
      refine op_v (v_move rfl) rfl ?_
      refine ops_nil ?_
      refine PostJ.view (View.drop Del.here) ?_
      refine post_again (c.length - (k + 1)) [(0, vg), (1, .slice ad c.length c0), (5, vb), (11, .slice ad c.length c0), (12, .int .i64 c.length), (13, .int .i64 (k + 1 : Nat))] (by omega) ⟨k + 1, vb, rfl, hlt, rfl, Imm.leA, rfl, by rw [hb2]; exact hvb.mono Imm.leA⟩ ⟨rfl, rfl, rfl, rfl, rfl, rfl, trivial⟩
  · have hge : k = c.length := by simp at hc0; omega
    subst hge
    rw [bestL_end] at hvb
    refine code_exit ?_
    refine post_exit_then ?_
    refine post_exit_then ?_
    refine post_exit ?_
    refine post_next ?_
    refine code_seq ?_
    refine code_region ?_
    refine op_v (v_move rfl) rfl ?_
    refine op_v (v_assign rfl) rfl ?_
    refine ops_nil ?_
    refine post_next ?_
    refine code_ret ?_
    refine post_ret (rs := [.tmp 4]) rfl (List.Perm.refl _) (.cons (.tmp rfl) .nil) (List.nil_sublist _) ?_
    exact ⟨hvb, rfl⟩
end Go.Proofs.YtdbadicpbmndbaaGreat
/- Walks: what is selected, what may play a part; the example of maximal literals. -/
set_option linter.unusedVariables false
set_option linter.unusedSimpArgs false
set_option linter.unnecessarySimpa false
/- short -/
namespace Go.Proofs.YtdbadicpbmndbaaGreat
open Go Lg

theorem IdxIm11_does {I : Imm} {v : Value} {xs : List Int} {x : Int} (hv : RInts I v xs) :
    Does Tryz.prog 78 [v, .int .i64 x] I [] (fun v _ δ' => (∃ n : Int, v = .int .i64 n ∧ (0 ≤ n ↔ x ∈ xs)) ∧ δ' = []) := by
  obtain ⟨ad, c, xs, hc, hb, hat, hr⟩ := hv
  refine Does.intro Tryz.func78 rfl Tryz.ntmps78 rfl fun w0 => ?_
  refine code_seq ?_
  refine code_region ?_
  refine op_v (v_assign rfl) rfl ?_
  refine ops_nil ?_
  refine post_next ?_
  refine code_seq ?_
  refine code_seq ?_
  refine code_region ?_
  refine op_v (v_move rfl) rfl ?_
  refine op_v (v_len Tryz.underlying30 rfl) rfl ?_
  refine op_v (v_move rfl) rfl ?_
  refine ops_nil ?_
  refine post_next ?_
  refine code_block ?_
  refine code_loop (fun m σ' I' δ' => ∃ k : Nat, m = xs.length - k ∧ σ' = [(0, .slice ad xs.length c), (1, .int .i64 x), (7, .int .i64 xs.length), (8, .int .i64 k)] ∧ I' = I ∧ δ' = ([] : List Ent) ∧ k ≤ xs.length ∧ x ∉ xs.take k) (xs.length - 0) [(0, .slice ad xs.length c), (1, .int .i64 x), (7, .int .i64 xs.length), (8, .int .i64 (0 : Nat))] ⟨0, rfl, rfl, rfl, rfl, ⟨Nat.zero_le _, by simp⟩⟩ ⟨rfl, rfl, rfl, rfl, trivial⟩ ?_
  rintro m _ _ _ ⟨k, rfl, rfl, rfl, rfl, hp⟩
  obtain ⟨hk, hp⟩ := hp
  refine code_seq ?_
  refine code_region ?_
  refine op_v (v_cmp rfl rfl rfl) rfl ?_
  refine ops_nil ?_
  refine post_next ?_
  refine code_seq ?_
  refine code_cond rfl (fun hc0 => ?_) (fun hc0 => ?_)
  · have hlt : k < xs.length := by simpa using hc0
    have hs1 := ints_some hat k hlt
    refine code_skip ?_
    refine post_next ?_
    refine code_seq ?_
    refine code_block ?_
    refine code_seq ?_
    refine code_region ?_
    refine op_v (v_move rfl) rfl ?_
    refine op_v (v_assign rfl) rfl ?_
    refine ops_nil ?_
    refine post_next ?_
    refine code_seq ?_
    refine code_region ?_
    refine op_v (v_move rfl) rfl ?_
    refine op_v (v_move rfl) rfl ?_
    refine op_v (v_move rfl) rfl ?_
    refine op_v (v_indexA Tryz.underlying30 sz3 rfl rfl) rfl ?_
    refine op_v (v_loadI0 ty3 ((ints_at hat k hlt)) rfl rfl rfl) rfl ?_
    refine op_v (v_cmp rfl rfl rfl) rfl ?_
    refine ops_nil ?_
    refine post_next ?_
    refine code_cond rfl (fun hc1 => ?_) (fun hc1 => ?_)
    · have heq : x = xs[k] := by simpa using hc1
      refine code_seq ?_
      refine code_region ?_
      refine op_v (v_move rfl) rfl ?_
      refine op_v (v_assign rfl) rfl ?_
      refine ops_nil ?_
      refine post_next ?_
      refine code_ret ?_
      refine post_ret_block ?_
      refine post_ret_then ?_
      refine post_ret_then ?_
      refine post_ret_block ?_
      refine post_ret_then ?_
      refine post_ret (rs := [.tmp 4]) rfl (List.Perm.refl _) (.cons (.tmp rfl) .nil) (List.nil_sublist _) ?_
      exact ⟨⟨k, rfl, by rw [heq]; simp⟩, rfl⟩
    · have hne : x ≠ xs[k] := by simpa using hc1
      refine code_skip ?_
      refine post_out ?_
      refine post_next ?_
      refine code_region ?_
      refine op_v (v_addb rfl rfl rfl (by omega)) rfl ?_
      refine op_v (v_move rfl) rfl ?_
      refine ops_nil ?_
      refine post_again (xs.length - (k + 1)) [(0, .slice ad xs.length c), (1, .int .i64 x), (7, .int .i64 xs.length), (8, .int .i64 (k + 1 : Nat))] (by omega) ⟨k + 1, rfl, rfl, rfl, rfl, ⟨hlt, by rw [List.take_succ_eq_append_getElem hlt, List.mem_append, List.mem_singleton]; exact fun h => h.elim hp hne⟩⟩ ⟨rfl, rfl, rfl, rfl, trivial⟩
  · have hge : k = xs.length := by simp at hc0; omega
    subst hge
    rw [List.take_length] at hp
    refine code_exit ?_
    refine post_exit_then ?_
    refine post_exit_then ?_
    refine post_exit ?_
    refine post_next ?_
    refine code_seq ?_
    refine code_region ?_
    refine op_v (v_assign rfl) rfl ?_
    refine ops_nil ?_
    refine post_next ?_
    refine code_ret ?_
    refine post_ret (rs := [.tmp 4]) rfl (List.Perm.refl _) (.cons (.tmp rfl) .nil) (List.nil_sublist _) ?_
    exact ⟨⟨-1, rfl, by simp [hp]⟩, rfl⟩
theorem ContR_does {I : Imm} {v : Value} {xs : List Int} {x : Int} (hv : RInts I v xs) :
    Does Tryz.prog 34 [v, .int .i64 x] I [] (fun v _ δ' => v = .bool (decide (x ∈ xs)) ∧ δ' = []) := by
  refine Does.intro Tryz.func34 rfl Tryz.ntmps34 rfl fun w0 => ?_
  refine code_seq ?_
  refine code_region ?_
  refine op_v (v_assign rfl) rfl ?_
  refine ops_nil ?_
  refine post_next ?_
  refine code_seq ?_
  refine code_region ?_
  refine op_v (v_move rfl) rfl ?_
  refine op_v (v_move rfl) rfl ?_
  refine op_call pl78 rfl rfl ((IdxIm11_does hv)) Parts.none ?_
  rintro v7 I7 _ hI7 ⟨⟨n, rfl, hn⟩, rfl⟩
  refine op_v (v_cmp (z := decide (x ∈ xs)) rfl rfl (by simp only [cmpI, hn])) rfl ?_
  refine op_v (v_assign rfl) rfl ?_
  refine ops_nil ?_
  refine post_next ?_
  refine code_ret ?_
  refine post_ret (rs := [.tmp 4]) rfl (List.Perm.refl _) (.cons (.tmp rfl) .nil) (List.nil_sublist _) ?_
  exact ⟨rfl, rfl⟩
def selE (gs : List Sy) (c : List Li) (how : Int) : Int := if chkC gs c ≠ 0 then chkC gs c else if how < 0 ∨ 3 ≤ how then 1 else 0
def selR (gs : List Sy) (c : List Li) (how : Int) : List Int := if selE gs c how = 0 then selG gs c how else []
theorem Select_does {I : Imm} {vg va : Value} {gs : List Sy} {c : List Li} {how : Int} (hg : RepG I vg gs) (hv : RepC I va c) (hsm : SmC c) :
    Does Tryz.prog 9 [vg, va, .int .i64 how] I [] (fun v I' δ' => (∃ u, v = .tuple #[u, .int .i64 (selE gs c how)] ∧ RInts I' u (selR gs c how)) ∧ δ' = []) := by
  refine Does.intro Tryz.func9 rfl Tryz.ntmps9 rfl fun w0 => ?_
  refine code_seq ?_
  refine code_region ?_
  refine op_v (v_assign rfl) rfl ?_
  refine op_v (v_assign rfl) rfl ?_
  refine ops_nil ?_
  refine post_next ?_
  refine code_seq ?_
  refine code_seq ?_
  refine code_region ?_
  refine op_v (v_move rfl) rfl ?_
  refine op_v (v_move rfl) rfl ?_
  refine op_call pl25 rfl rfl ((CCheck_does hg hv hsm)) Parts.none ?_
  rintro v12 I12 _ hI12 ⟨rfl, rfl⟩
  refine op_v (v_assign rfl) rfl ?_
  refine ops_nil ?_
  refine post_next ?_
  refine code_seq ?_
  refine code_region ?_
  refine op_v (v_move rfl) rfl ?_
  by_cases h14 : chkC gs c ≠ 0
  · have he : selE gs c how = chkC gs c := if_pos h14
    refine op_v (v_cmptA rfl rfl rfl) rfl ?_
    refine ops_nil ?_
    refine post_next ?_
    refine code_cond_t rfl ?_
    refine code_seq ?_
    refine code_region ?_
    refine op_v (v_move rfl) rfl ?_
    refine op_v (v_assign rfl) rfl ?_
    refine op_v (v_assign rfl) rfl ?_
    refine ops_nil ?_
    refine post_next ?_
    refine code_ret ?_
    refine post_ret_then ?_
    refine post_ret (rs := [.tmp 6, .tmp 7]) rfl (List.Perm.refl _) (.cons (.tmp rfl) (.cons (.tmp rfl) .nil)) (List.nil_sublist _) ?_
    exact ⟨⟨_, by rw [he]; rfl, by unfold selR; rw [he, if_neg h14]; exact RInts.nil _⟩, rfl⟩
  · refine op_v (v_cmpfA rfl rfl rfl) rfl ?_
    refine ops_nil ?_
    refine post_next ?_
    refine code_cond_f rfl ?_
    refine code_skip ?_
    refine post_next ?_
    refine code_seq ?_
    refine code_seq ?_
    refine code_region ?_
    refine op_v (v_move rfl) rfl ?_
    by_cases h17 : how < 0
    · have he : selE gs c how = 1 := by unfold selE; rw [if_neg h14, if_pos (.inl h17)]
      refine op_v (v_cmptA rfl rfl rfl) rfl ?_
      refine op_v (v_move rfl) rfl ?_
      refine op_skip rfl rfl (by simp [undef]) rfl ?_
      refine op_skip rfl rfl (by simp [undef]) rfl ?_
      refine op_v (v_pickt rfl rfl) rfl ?_
      refine ops_nil ?_
      refine post_next ?_
      refine code_cond_t rfl ?_
      refine code_seq ?_
      refine code_region ?_
      refine op_v (v_assign rfl) rfl ?_
      refine op_v (v_assign rfl) rfl ?_
      refine ops_nil ?_
      refine post_next ?_
      refine code_ret ?_
      refine post_ret_then ?_
      refine post_ret (rs := [.tmp 6, .tmp 7]) rfl (List.Perm.refl _) (.cons (.tmp rfl) (.cons (.tmp rfl) .nil)) (List.nil_sublist _) ?_
      exact ⟨⟨_, by rw [he]; rfl, by unfold selR; rw [he, if_neg (by decide)]; exact RInts.nil _⟩, rfl⟩
    · refine op_v (v_cmpfA rfl rfl rfl) rfl ?_
      refine op_v (v_move rfl) rfl ?_
      refine op_want rfl rfl ?_
      refine op_v (v_move rfl) rfl ?_
      by_cases h20 : 3 ≤ how
      · have he : selE gs c how = 1 := by unfold selE; rw [if_neg h14, if_pos (.inr h20)]
        first
          | (refine op_want rfl rfl ?_
             refine op_v (v_cmptA rfl rfl rfl) rfl ?_)
          | (refine op_skip rfl rfl (by simp [undef]) rfl ?_)
        refine op_v (v_pickf rfl rfl) rfl ?_
        refine ops_nil ?_
        refine post_next ?_
        refine code_cond_t rfl ?_
        refine code_seq ?_
        refine code_region ?_
        refine op_v (v_assign rfl) rfl ?_
        refine op_v (v_assign rfl) rfl ?_
        refine ops_nil ?_
        refine post_next ?_
        refine code_ret ?_
        refine post_ret_then ?_
        refine post_ret (rs := [.tmp 6, .tmp 7]) rfl (List.Perm.refl _) (.cons (.tmp rfl) (.cons (.tmp rfl) .nil)) (List.nil_sublist _) ?_
        exact ⟨⟨_, by rw [he]; rfl, by unfold selR; rw [he, if_neg (by decide)]; exact RInts.nil _⟩, rfl⟩
      · have he : selE gs c how = 0 := by unfold selE; rw [if_neg h14, if_neg (fun h => by rcases h with h | h; exact h17 h; exact h20 h)]
        first
          | (refine op_want rfl rfl ?_
             refine op_v (v_cmpfA rfl rfl rfl) rfl ?_)
          | (refine op_skip rfl rfl (by simp [undef]) rfl ?_)
        refine op_v (v_pickf rfl rfl) rfl ?_
        refine ops_nil ?_
        refine post_next ?_
        refine code_cond_f rfl ?_
        refine code_skip ?_
        refine post_next ?_
        refine code_seq ?_
        refine code_region ?_
        refine op_v (v_buildK (v := .agg #[.func (.func 29) #[] #[], .func (.func 30) #[] #[], .func (.func 31) #[] #[]]) rfl (fun _ => by kernel_rfl)) rfl ?_
        refine o_alloc z54 rfl rfl (fun b9 => ?_)
        refine o_store ty54 rfl rfl rfl rfl rfl (by repeat (first | exact Swap.here | apply Swap.there)) rfl ?_
        refine ops_nil ?_
        refine post_next ?_
        refine code_seq ?_
        refine code_region ?_
        by_cases q0 : how = 0
        · subst q0
          refine op_v (v_move rfl) rfl ?_
          refine op_v (v_indexArr (i := 0) Tryz.underlying54 sz53 rfl rfl (by omega)) rfl ?_
          refine op_v (v_loadA ty53 rfl rfl) rfl ?_
          refine op_v (v_move rfl) rfl ?_
          refine op_v (v_move rfl) rfl ?_
          refine op_fcall rfl rfl rfl ((Does.toF (args := [_, _]) (by kernel_rfl) (none_does (gs := gs) (c := c)))) Parts.none ?_
          rintro v28 I28 _ hI28 ⟨hv28, rfl⟩
          refine op_v (v_assign rfl) rfl ?_
          refine op_v (v_assign rfl) rfl ?_
          refine ops_nil ?_
          refine post_next ?_
          refine code_ret ?_
          refine post_ret (rs := [.tmp 6, .tmp 7]) rfl (List.Perm.refl _) (.cons (.tmp rfl) (.cons (.tmp rfl) .nil)) (List.nil_sublist _) ?_
          exact ⟨⟨_, by rw [he]; rfl, by unfold selR; rw [he, if_pos rfl]; exact hv28⟩, rfl⟩
        · refine op_v (v_move rfl) rfl ?_
          by_cases q1 : how = 1
          · subst q1
            refine op_v (v_indexArr (i := 1) Tryz.underlying54 sz53 rfl rfl (by omega)) rfl ?_
            refine op_v (v_loadA ty53 rfl rfl) rfl ?_
            refine op_v (v_move rfl) rfl ?_
            refine op_v (v_move rfl) rfl ?_
            refine op_fcall rfl rfl rfl ((Does.toF (args := [_, _]) (by kernel_rfl) (first_doesM (hv.mono Imm.leA)))) Parts.none ?_
            rintro v28 I28 _ hI28 ⟨hv28, rfl⟩
            refine op_v (v_assign rfl) rfl ?_
            refine op_v (v_assign rfl) rfl ?_
            refine ops_nil ?_
            refine post_next ?_
            refine code_ret ?_
            refine post_ret (rs := [.tmp 6, .tmp 7]) rfl (List.Perm.refl _) (.cons (.tmp rfl) (.cons (.tmp rfl) .nil)) (List.nil_sublist _) ?_
            exact ⟨⟨_, by rw [he]; rfl, by unfold selR; rw [he, if_pos rfl, selG_first]; exact hv28⟩, rfl⟩
          · have q2 : how = 2 := by omega
            subst q2
            refine op_v (v_indexArr (i := 2) Tryz.underlying54 sz53 rfl rfl (by omega)) rfl ?_
            refine op_v (v_loadA ty53 rfl rfl) rfl ?_
            refine op_v (v_move rfl) rfl ?_
            refine op_v (v_move rfl) rfl ?_
            refine op_fcall rfl rfl rfl ((Does.toF (args := [_, _]) (by kernel_rfl) (heavy_does (hg.mono Imm.leA) (hv.mono Imm.leA) hsm))) Parts.none ?_
            rintro v28 I28 _ hI28 ⟨hv28, rfl⟩
            refine op_v (v_assign rfl) rfl ?_
            refine op_v (v_assign rfl) rfl ?_
            refine ops_nil ?_
            refine post_next ?_
            refine code_ret ?_
            refine post_ret (rs := [.tmp 6, .tmp 7]) rfl (List.Perm.refl _) (.cons (.tmp rfl) (.cons (.tmp rfl) .nil)) (List.nil_sublist _) ?_
            exact ⟨⟨_, by rw [he]; rfl, by unfold selR; rw [he, if_pos rfl]; exact hv28⟩, rfl⟩
def mayB (gs : List Sy) (c d : List Li) (how i : Int) : Bool := if 0 < (selG gs c how).length then decide (i ∈ selG gs c how) else topG gs d i.toNat (!(c.getD i.toNat zeroLi).neg)
def MayH (gs : List Sy) (c : List Li) (how i : Int) (bs : List Bi) (b : Bool) (e : Int) : Prop :=
  (selE gs c how ≠ 0 ∧ e = selE gs c how ∧ b = false) ∨ (selE gs c how = 0 ∧ (((i < 0 ∨ (c.length : Int) ≤ i) ∧ e = 1 ∧ b = false) ∨ (¬ (i < 0 ∨ (c.length : Int) ≤ i) ∧ ∃ e1 d, OutC bs c e1 d ∧ ((e1 ≠ 0 ∧ e = e1 ∧ b = false) ∨ (e1 = 0 ∧ ((chkC gs d ≠ 0 ∧ e = chkC gs d ∧ b = false) ∨ (chkC gs d = 0 ∧ e = 0 ∧ b = mayB gs c d how i)))))))
theorem MayH.eq {gs : List Sy} {c : List Li} {how i : Int} {bs : List Bi} {a b : Bool} {e f : Int} (h : MayH gs c how i bs a e) (k : MayH gs c how i bs b f) : a = b ∧ e = f := by
  rcases h with ⟨h1, rfl, rfl⟩ | ⟨h1, ⟨h2, rfl, rfl⟩ | ⟨h2, e1, d, ho, h3⟩⟩ <;> rcases k with ⟨k1, rfl, rfl⟩ | ⟨k1, ⟨k2, rfl, rfl⟩ | ⟨k2, f1, d2, ko, k3⟩⟩
  · exact ⟨rfl, rfl⟩
  · exact absurd k1 h1
  · exact absurd k1 h1
  · exact absurd h1 k1
  · exact ⟨rfl, rfl⟩
  · exact absurd h2 k2
  · exact absurd h1 k1
  · exact absurd k2 h2
  · obtain ⟨rfl, rfl⟩ := ho.eq ko
    rcases h3 with ⟨h3, rfl, rfl⟩ | ⟨h3, ⟨h4, rfl, rfl⟩ | ⟨h4, rfl, rfl⟩⟩ <;> rcases k3 with ⟨k3, rfl, rfl⟩ | ⟨k3, ⟨k4, rfl, rfl⟩ | ⟨k4, rfl, rfl⟩⟩
    · exact ⟨rfl, rfl⟩
    · exact absurd k3 h3
    · exact absurd k3 h3
    · exact absurd h3 k3
    · exact ⟨rfl, rfl⟩
    · exact absurd k4 h4
    · exact absurd h3 k3
    · exact absurd h4 k4
    · exact ⟨rfl, rfl⟩
theorem OutC.len0 {bs : List Bi} {c ys : List Li} (h : OutC bs c 0 ys) : ys.length = c.length ∧ ∀ i (h : i < c.length) (h2 : i < ys.length), OutL bs c[i] 0 ys[i] := by
  rcases h with ⟨_, h, _⟩ | ⟨_, ⟨_, _, _, _, _, _, h, _⟩ | ⟨_, hl, hall⟩⟩
  · cases h
  · exact absurd rfl h
  · exact ⟨hl, hall⟩
theorem May_does {I : Imm} {vg va vs : Value} {gs : List Sy} {c : List Li} {how i : Int} {bs : List Bi} (hg : RepG I vg gs) (hv : RepC I va c) (hs : RepB I vs bs) (hbs : ∀ b ∈ bs, b.2.size ≤ 500) (hsz : ∀ x ∈ c, x.l.size ≤ 500 ∧ x.r.size ≤ 500) :
    Does Tryz.prog 11 [vg, va, .int .i64 how, .int .i64 i, vs] I [] (fun v _ δ' => (∃ b e, v = .tuple #[.bool b, .int .i64 e] ∧ MayH gs c how i bs b e) ∧ δ' = []) := by
  have hsm : SmC c := fun x hx => by have := hsz x hx; omega
  obtain ⟨ad, c0, xs, rfl, hc, hb, hcells, hrow⟩ := id hv
  refine Does.intro Tryz.func11 rfl Tryz.ntmps11 rfl fun w0 => ?_
  refine code_seq ?_
  refine code_region ?_
  refine op_v (v_assign rfl) rfl ?_
  refine op_v (v_assign rfl) rfl ?_
  refine ops_nil ?_
  refine post_next ?_
  refine code_seq ?_
  refine code_region ?_
  refine op_v (v_move rfl) rfl ?_
  refine op_v (v_move rfl) rfl ?_
  refine op_v (v_move rfl) rfl ?_
  refine op_call pl9 rfl rfl ((Select_does hg hv hsm)) Parts.none ?_
  rintro v20 I20 _ hI20 ⟨⟨u20, rfl, hu20⟩, rfl⟩
  refine op_v (v_move rfl) rfl ?_
  refine op_v (v_extract rfl rfl) rfl ?_
  refine op_v (v_extract rfl rfl) rfl ?_
  refine op_v (v_assign rfl) rfl ?_
  refine op_v (v_assign rfl) rfl ?_
  refine ops_nil ?_
  refine post_next ?_
  refine code_seq ?_
  refine code_seq ?_
  refine code_region ?_
  refine op_v (v_move rfl) rfl ?_
  by_cases h24 : selE gs c how ≠ 0
  · refine op_v (v_cmptA rfl rfl rfl) rfl ?_
    refine ops_nil ?_
    refine post_next ?_
    refine code_cond_t rfl ?_
    refine code_seq ?_
    refine code_region ?_
    refine op_v (v_move rfl) rfl ?_
    refine op_v (v_assign rfl) rfl ?_
    refine op_v (v_assign rfl) rfl ?_
    refine ops_nil ?_
    refine post_next ?_
    refine code_ret ?_
    refine post_ret_then ?_
    refine post_ret (rs := [.tmp 10, .tmp 11]) rfl (List.Perm.refl _) (.cons (.tmp rfl) (.cons (.tmp rfl) .nil)) (List.nil_sublist _) ?_
    exact ⟨⟨_, _, rfl, .inl ⟨h24, rfl, rfl⟩⟩, rfl⟩
  · have he : selE gs c how = 0 := Classical.not_not.1 h24
    unfold selR at hu20
    rw [if_pos he] at hu20
    refine op_v (v_cmpfA rfl rfl rfl) rfl ?_
    refine ops_nil ?_
    refine post_next ?_
    refine code_cond_f rfl ?_
    refine code_skip ?_
    refine post_next ?_
    refine code_seq ?_
    refine code_seq ?_
    refine code_region ?_
    refine op_v (v_move rfl) rfl ?_
    by_cases h27 : i < 0
    · refine op_v (v_cmptA rfl rfl rfl) rfl ?_
      refine op_v (v_move rfl) rfl ?_
      refine op_skip rfl rfl (by simp [undef]) rfl ?_
      refine op_skip rfl rfl (by simp [undef]) rfl ?_
      refine op_skip rfl rfl (by simp [undef]) rfl ?_
      refine op_skip rfl rfl (by simp [undef]) rfl ?_
      refine op_v (v_pickt rfl rfl) rfl ?_
      refine ops_nil ?_
      refine post_next ?_
      refine code_cond_t rfl ?_
      refine code_seq ?_
      refine code_region ?_
      refine op_v (v_assign rfl) rfl ?_
      refine op_v (v_assign rfl) rfl ?_
      refine ops_nil ?_
      refine post_next ?_
      refine code_ret ?_
      refine post_ret_then ?_
      refine post_ret (rs := [.tmp 10, .tmp 11]) rfl (List.Perm.refl _) (.cons (.tmp rfl) (.cons (.tmp rfl) .nil)) (List.nil_sublist _) ?_
      exact ⟨⟨_, _, rfl, .inr ⟨he, .inl ⟨.inl h27, rfl, rfl⟩⟩⟩, rfl⟩
    · refine op_v (v_cmpfA rfl rfl rfl) rfl ?_
      refine op_v (v_move rfl) rfl ?_
      refine op_want rfl rfl ?_
      refine op_v (v_move rfl) rfl ?_
      refine op_want rfl rfl ?_
      refine op_v (v_move rfl) rfl ?_
      refine op_want rfl rfl ?_
      refine op_v (v_len Tryz.underlying23 rfl) rfl ?_
      by_cases h32 : (c.length : Int) ≤ i
      · first
          | (refine op_want rfl rfl ?_
             refine op_v (v_cmptA rfl rfl rfl) rfl ?_)
          | (refine op_skip rfl rfl (by simp [undef]) rfl ?_)
        refine op_v (v_pickf rfl rfl) rfl ?_
        refine ops_nil ?_
        refine post_next ?_
        refine code_cond_t rfl ?_
        refine code_seq ?_
        refine code_region ?_
        refine op_v (v_assign rfl) rfl ?_
        refine op_v (v_assign rfl) rfl ?_
        refine ops_nil ?_
        refine post_next ?_
        refine code_ret ?_
        refine post_ret_then ?_
        refine post_ret (rs := [.tmp 10, .tmp 11]) rfl (List.Perm.refl _) (.cons (.tmp rfl) (.cons (.tmp rfl) .nil)) (List.nil_sublist _) ?_
        exact ⟨⟨_, _, rfl, .inr ⟨he, .inl ⟨.inr h32, rfl, rfl⟩⟩⟩, rfl⟩
      · have hin : ¬ (i < 0 ∨ (c.length : Int) ≤ i) := fun h => by rcases h with h | h; exact h27 h; exact h32 h
        obtain ⟨n, hn⟩ := Int.eq_ofNat_of_zero_le (show 0 ≤ i by omega)
        subst hn
        have hnl : n < c.length := by omega
        obtain ⟨vn, ⟨la, lc, ra, rc, rfl, hnL, hnR⟩, hatn⟩ := hrow.cellsAt hcells hnl
        have hs1 := hatn.isSome
        first
          | (refine op_want rfl rfl ?_
             refine op_v (v_cmpfA rfl rfl rfl) rfl ?_)
          | (refine op_skip rfl rfl (by simp [undef]) rfl ?_)
        refine op_v (v_pickf rfl rfl) rfl ?_
        refine ops_nil ?_
        refine post_next ?_
        refine code_cond_f rfl ?_
        refine code_skip ?_
        refine post_next ?_
        refine code_seq ?_
        refine code_region ?_
        refine op_v (v_move rfl) rfl ?_
        refine op_v (v_move rfl) rfl ?_
        refine op_call pl33 rfl rfl ((CApply_does (hs.mono Imm.leA) (hv.mono Imm.leA) hbs hsz)) Parts.none ?_
        rintro v37 I37 _ hI37 ⟨⟨e1, d, r37, rfl, hr37, ho⟩, rfl⟩
        have hdm := ho.sm
        refine op_v (v_move rfl) rfl ?_
        refine op_v (v_extract rfl rfl) rfl ?_
        refine op_v (v_extract rfl rfl) rfl ?_
        refine op_v (v_assign rfl) rfl ?_
        refine op_v (v_assign rfl) rfl ?_
        refine ops_nil ?_
        refine post_next ?_
        refine code_seq ?_
        refine code_seq ?_
        refine code_region ?_
        refine op_v (v_move rfl) rfl ?_
        by_cases h41 : e1 ≠ 0
        · refine op_v (v_cmptA rfl rfl rfl) rfl ?_
          refine ops_nil ?_
          refine post_next ?_
          refine code_cond_t rfl ?_
          refine code_seq ?_
          refine code_region ?_
          refine op_v (v_move rfl) rfl ?_
          refine op_v (v_assign rfl) rfl ?_
          refine op_v (v_assign rfl) rfl ?_
          refine ops_nil ?_
          refine post_next ?_
          refine code_ret ?_
          refine post_ret_then ?_
          refine post_ret (rs := [.tmp 10, .tmp 11]) rfl (List.Perm.refl _) (.cons (.tmp rfl) (.cons (.tmp rfl) .nil)) (List.nil_sublist _) ?_
          exact ⟨⟨_, _, rfl, .inr ⟨he, .inr ⟨hin, e1, d, ho, .inl ⟨h41, rfl, rfl⟩⟩⟩⟩, rfl⟩
        · have he1 : e1 = 0 := Classical.not_not.1 h41
          subst he1
          have hdl := ho.len0.1
          refine op_v (v_cmpfA rfl rfl rfl) rfl ?_
          refine ops_nil ?_
          refine post_next ?_
          refine code_cond_f rfl ?_
          refine code_skip ?_
          refine post_next ?_
          refine code_seq ?_
          refine code_seq ?_
          refine code_region ?_
          refine op_v (v_move rfl) rfl ?_
          refine op_v (v_move rfl) rfl ?_
          refine op_call pl25 rfl rfl ((CCheck_does (hg.mono Imm.leA) hr37 hdm)) Parts.none ?_
          rintro v45 I45 _ hI45 ⟨rfl, rfl⟩
          refine op_v (v_assign rfl) rfl ?_
          refine ops_nil ?_
          refine post_next ?_
          refine code_seq ?_
          refine code_region ?_
          refine op_v (v_move rfl) rfl ?_
          by_cases h47 : chkC gs d ≠ 0
          · refine op_v (v_cmptA rfl rfl rfl) rfl ?_
            refine ops_nil ?_
            refine post_next ?_
            refine code_cond_t rfl ?_
            refine code_seq ?_
            refine code_region ?_
            refine op_v (v_move rfl) rfl ?_
            refine op_v (v_assign rfl) rfl ?_
            refine op_v (v_assign rfl) rfl ?_
            refine ops_nil ?_
            refine post_next ?_
            refine code_ret ?_
            refine post_ret_then ?_
            refine post_ret (rs := [.tmp 10, .tmp 11]) rfl (List.Perm.refl _) (.cons (.tmp rfl) (.cons (.tmp rfl) .nil)) (List.nil_sublist _) ?_
            exact ⟨⟨_, _, rfl, .inr ⟨he, .inr ⟨hin, 0, d, ho, .inr ⟨rfl, .inl ⟨h47, rfl, rfl⟩⟩⟩⟩⟩, rfl⟩
          · have hd0 : chkC gs d = 0 := Classical.not_not.1 h47
            obtain ⟨ua, uc, hsh⟩ := hu20.shape
            subst hsh
            refine op_v (v_cmpfA rfl rfl rfl) rfl ?_
            refine ops_nil ?_
            refine post_next ?_
            refine code_cond_f rfl ?_
            refine code_skip ?_
            refine post_next ?_
            refine code_seq ?_
            refine code_seq ?_
            refine code_region ?_
            refine op_v (v_move rfl) rfl ?_
            refine op_v (v_len Tryz.underlying30 rfl) rfl ?_
            by_cases h51 : 0 < (selG gs c how).length
            · refine op_v (v_cmptA rfl rfl rfl) rfl ?_
              refine ops_nil ?_
              refine post_next ?_
              refine code_cond_t rfl ?_
              refine code_seq ?_
              refine code_region ?_
              refine op_v (v_move rfl) rfl ?_
              refine op_v (v_move rfl) rfl ?_
              refine op_call pl34 rfl rfl ((ContR_does (hu20.mono Imm.leA) (x := (n : Int)))) Parts.none ?_
              rintro v54 I54 _ hI54 ⟨rfl, rfl⟩
              refine op_v (v_assign rfl) rfl ?_
              refine op_v (v_assign rfl) rfl ?_
              refine ops_nil ?_
              refine post_next ?_
              refine code_ret ?_
              refine post_ret_then ?_
              refine post_ret (rs := [.tmp 10, .tmp 11]) rfl (List.Perm.refl _) (.cons (.tmp rfl) (.cons (.tmp rfl) .nil)) (List.nil_sublist _) ?_
              exact ⟨⟨_, _, rfl, .inr ⟨he, .inr ⟨hin, 0, d, ho, .inr ⟨rfl, .inr ⟨hd0, rfl, by unfold mayB; rw [if_pos h51]⟩⟩⟩⟩⟩, rfl⟩
            · refine op_v (v_cmpfA rfl rfl rfl) rfl ?_
              refine ops_nil ?_
              refine post_next ?_
              refine code_cond_f rfl ?_
              refine code_skip ?_
              refine post_next ?_
              refine code_seq ?_
              refine code_region ?_
              refine op_v (v_move rfl) rfl ?_
              refine op_v (v_move rfl) rfl ?_
              refine op_v (v_move rfl) rfl ?_
              refine op_v (v_move rfl) rfl ?_
              refine op_v (v_move rfl) rfl ?_
              refine op_v (v_indexA Tryz.underlying23 sz59 rfl rfl) rfl ?_
              refine op_v (v_fieldI 0 Tryz.underlying59 rfl rfl fz4 rfl (by assumption)) rfl ?_
              refine op_v (v_loadI0 ty4 (hatn.mono Imm.leA) rfl rfl rfl) rfl ?_
              refine op_v (v_not rfl) rfl ?_
              refine op_call pl26 rfl rfl ((top_does (i := n) (s := !c[n].neg) (hg.mono Imm.leA) (hr37.mono Imm.leA) hdm hd0 (by omega))) Parts.none ?_
              rintro v64 I64 _ hI64 ⟨rfl, rfl⟩
              refine op_v (v_assign rfl) rfl ?_
              refine op_v (v_assign rfl) rfl ?_
              refine ops_nil ?_
              refine post_next ?_
              refine code_ret ?_
              refine post_ret (rs := [.tmp 10, .tmp 11]) rfl (List.Perm.refl _) (.cons (.tmp rfl) (.cons (.tmp rfl) .nil)) (List.nil_sublist _) ?_
              exact ⟨⟨_, _, rfl, .inr ⟨he, .inr ⟨hin, 0, d, ho, .inr ⟨rfl, .inr ⟨hd0, rfl, by unfold mayB; rw [if_neg h51, Int.toNat_natCast, getD_at hnl]⟩⟩⟩⟩⟩, rfl⟩
theorem few11_does {I : Imm} {vg va : Value} {gs : List Sy} {c : List Li} (hg : RepG I vg gs) (ha : RepC I va c) :
    Does Tryz.prog 5 [vg, va] I [] (fun v I' δ' => (∃ b, v = .bool b ∧ (b = true → FewC c ∧ c.length ≤ 33)) ∧ δ' = []) := by
  obtain ⟨ad, c0, hsh⟩ := RepE.shape ha
  subst hsh
  refine Does.intro Tryz.func5 rfl Tryz.ntmps5 rfl fun w0 => ?_
  refine code_seq ?_
  refine code_region ?_
  refine op_v (v_assign rfl) rfl ?_
  refine ops_nil ?_
  refine post_next ?_
  refine code_seq ?_
  refine code_region ?_
  refine op_v (v_move rfl) rfl ?_
  refine op_call pl22 rfl rfl ((FewG_does hg)) Parts.none ?_
  rintro v6 I6 _ hI6 ⟨rfl, rfl⟩
  by_cases h7 : fewG gs = true
  · rw [h7]
    refine op_v (v_move rfl) rfl ?_
    refine op_want rfl rfl ?_
    refine op_v (v_move rfl) rfl ?_
    refine op_want rfl rfl ?_
    refine op_call pl23 rfl rfl ((Few10_does (ha.mono Imm.leA))) Parts.none ?_
    rintro v9 I9 _ hI9 ⟨⟨b9, rfl, hb9⟩, rfl⟩
    refine op_v (v_pickt rfl rfl) rfl ?_
    by_cases h11 : b9 = true
    · subst h11
      refine op_v (v_move rfl) rfl ?_
      refine op_want rfl rfl ?_
      refine op_v (v_move rfl) rfl ?_
      refine op_want rfl rfl ?_
      refine op_v (v_len Tryz.underlying23 rfl) rfl ?_
      by_cases h14 : c.length ≤ 33
      · refine op_want rfl rfl ?_
        refine op_v (v_cmpt rfl rfl rfl (by omega)) rfl ?_
        refine op_v (v_pickt rfl rfl) rfl ?_
        refine op_v (v_assign rfl) rfl ?_
        refine ops_nil ?_
        refine post_next ?_
        refine code_ret ?_
        refine post_ret (rs := [.tmp 4]) rfl (List.Perm.refl _) (.cons (.tmp rfl) .nil) (List.nil_sublist _) ?_
        exact ⟨⟨true, rfl, fun _ => ⟨hb9 rfl, h14⟩⟩, rfl⟩
      · refine op_want rfl rfl ?_
        refine op_v (v_cmpf rfl rfl rfl (by omega)) rfl ?_
        refine op_v (v_pickt rfl rfl) rfl ?_
        refine op_v (v_assign rfl) rfl ?_
        refine ops_nil ?_
        refine post_next ?_
        refine code_ret ?_
        refine post_ret (rs := [.tmp 4]) rfl (List.Perm.refl _) (.cons (.tmp rfl) .nil) (List.nil_sublist _) ?_
        exact ⟨⟨false, rfl, fun h => by cases h⟩, rfl⟩
    · have h11' : b9 = false := by simpa using h11
      subst h11'
      refine op_v (v_move rfl) rfl ?_
      refine op_skip rfl rfl (by simp [undef]) rfl ?_
      refine op_skip rfl rfl (by simp [undef]) rfl ?_
      refine op_skip rfl rfl (by simp [undef]) rfl ?_
      refine op_v (v_pickf rfl rfl) rfl ?_
      refine op_v (v_assign rfl) rfl ?_
      refine ops_nil ?_
      refine post_next ?_
      refine code_ret ?_
      refine post_ret (rs := [.tmp 4]) rfl (List.Perm.refl _) (.cons (.tmp rfl) .nil) (List.nil_sublist _) ?_
      exact ⟨⟨false, rfl, fun h => by cases h⟩, rfl⟩
  · have h7' : fewG gs = false := by simpa using h7
    rw [h7']
    refine op_v (v_move rfl) rfl ?_
    refine op_skip rfl rfl (by simp [undef]) rfl ?_
    refine op_skip rfl rfl (by simp [undef]) rfl ?_
    refine op_v (v_pickf rfl rfl) rfl ?_
    refine op_v (v_move rfl) rfl ?_
    refine op_skip rfl rfl (by simp [undef]) rfl ?_
    refine op_skip rfl rfl (by simp [undef]) rfl ?_
    refine op_skip rfl rfl (by simp [undef]) rfl ?_
    refine op_v (v_pickf rfl rfl) rfl ?_
    refine op_v (v_assign rfl) rfl ?_
    refine ops_nil ?_
    refine post_next ?_
    refine code_ret ?_
    refine post_ret (rs := [.tmp 4]) rfl (List.Perm.refl _) (.cons (.tmp rfl) .nil) (List.nil_sublist _) ?_
    exact ⟨⟨false, rfl, fun h => by cases h⟩, rfl⟩
theorem toy11_does (I : Imm) : Does Tryz.prog 38 [] I [] (fun v I' δ' => RepG I' v gs8 ∧ δ' = []) := by
  refine Does.intro Tryz.func38 rfl Tryz.ntmps38 rfl fun w0 => ?_
  refine code_seq ?_
  refine code_region ?_
  refine op_v (v_assign rfl) rfl ?_
  refine ops_nil ?_
  refine post_next ?_
  refine code_seq ?_
  refine code_region ?_
  refine op_v (v_build bl85 rfl rfl) rfl ?_
  refine op_v (v_build bl85 rfl rfl) rfl ?_
  refine op_v (v_build bl85 rfl rfl) rfl ?_
  refine o_buildSlice (xs := [(Go.Operand.tmp 1), (Go.Operand.tmp 2), (Go.Operand.tmp 3)]) Tryz.underlying22 bs85 rfl rfl rfl rfl rfl (fun b4 => ?_)
  refine OpsJ.freezeRow Del.here ?_
  rintro I4 a4 c4 hI4 hq hc4 hl4 hcells4
  cases hq
  have hg : RepG I4 _ gs8 := RepG.of (gs := gs8) hcells4 rfl rfl hc4 (by decide) (by intro s hs; simp [gs8, truthS] at hs; rcases hs with rfl | rfl | rfl <;> exact ⟨by unfold InR; simp, by unfold InR; simp, by simp [ByteArray.size, maxLen]⟩)
  refine op_v (v_assign rfl) rfl ?_
  refine ops_nil ?_
  refine post_next ?_
  refine code_ret ?_
  refine post_ret (rs := [.tmp 0]) rfl (List.Perm.refl _) (.cons (.tmp rfl) .nil) (List.nil_sublist _) ?_
  exact ⟨hg, rfl⟩
def fa11 : T := .mk 2 [a9]
def A11 : Li := ⟨false, a9, a9⟩
def B11 : Li := ⟨false, fa11, a9⟩
def c11 : List Li := [A11, B11]
theorem c11_e1 : maxE gs8 c11 1 = 0 := by decide +kernel
theorem c11_b1 : maxB gs8 c11 1 true = true := by decide +kernel
theorem c11_e0 : maxE gs8 c11 0 = 0 := by decide +kernel
theorem c11_b0 : maxB gs8 c11 0 false = false := by decide +kernel
theorem c11_s : selE gs8 c11 1 = 0 := by decide +kernel
theorem c11_l : selG gs8 c11 1 = [] := by decide +kernel
theorem c11_m : mayB gs8 c11 c11 1 1 = true := by decide +kernel
theorem c11_chk : chkC gs8 c11 = 0 := by decide +kernel
theorem c11_sm : ∀ x ∈ c11, x.l.size ≤ 500 ∧ x.r.size ≤ 500 := by decide +kernel
theorem outE_nil {t : T} (h : chkT t = 0) (k : sbT [] t = t) : OutE [] t 0 t := .inl ⟨⟨fun i h => by simp at h, h⟩, by rw [k, h], by rw [k, if_pos h]⟩
theorem c11_may : MayH gs8 c11 1 1 [] true 0 := by
  have ha : OutE [] a9 0 a9 := outE_nil (by decide +kernel) (by decide +kernel)
  have hf : OutE [] fa11 0 fa11 := outE_nil (by decide +kernel) (by decide +kernel)
  have h0 : OutL [] A11 0 A11 := ⟨0, a9, ha, .inr ⟨rfl, 0, a9, ha, .inr ⟨rfl, rfl, rfl⟩⟩⟩
  have h1 : OutL [] B11 0 B11 := ⟨0, fa11, hf, .inr ⟨rfl, 0, a9, ha, .inr ⟨rfl, rfl, rfl⟩⟩⟩
  have ho : OutC [] c11 0 c11 := .inr ⟨by decide, .inr ⟨rfl, rfl, fun i h _ => by
    match i, h with
    | 0, _ => exact h0
    | 1, _ => exact h1⟩⟩
  exact .inr ⟨c11_s, .inr ⟨by decide, 0, c11, ho, .inr ⟨rfl, .inr ⟨c11_chk, rfl, c11_m.symm⟩⟩⟩⟩
end Go.Proofs.YtdbadicpbmndbaaGreat
/- Walks: the example of maximal literals; with terms put: the statement. -/
set_option linter.unusedVariables false
set_option linter.unusedSimpArgs false
set_option linter.unnecessarySimpa false
/- short -/
namespace Go.Proofs.YtdbadicpbmndbaaGreat
open Go Lg

theorem repB_nil (I : Imm) : RepB I (.slice none 0 0) [] := ⟨none, 0, fun _ => (none, 0), [], Nat.le_refl _, by simp, fun i h => by simp at h, fun i h => by simp at h, fun i h => by simp at h⟩
theorem c11_smC : SmC c11 := fun x hx => by have := c11_sm x hx; omega
theorem awake11_does (I : Imm) :
    Does Tryz.prog 13 [] I [] (fun v I' δ' => v = .bool true ∧ δ' = []) := by
  refine Does.intro Tryz.func13 rfl Tryz.ntmps13 rfl fun w0 => ?_
  refine code_seq ?_
  refine code_region ?_
  refine op_v (v_assign rfl) rfl ?_
  refine ops_nil ?_
  refine post_next ?_
  refine code_seq ?_
  refine code_region ?_
  refine op_call pl37 rfl rfl ((Fun_does (by unfold InR; omega) (RepS.nil _))) Parts.none ?_
  rintro v11 I11 _ hI11 ⟨hv11, rfl⟩
  change RepT I11 v11 a9 at hv11
  obtain ⟨a11, c11', rfl, _⟩ := hv11.shape
  refine o_alloc z48 rfl rfl (fun b1 => ?_)
  refine o_store ty48 rfl rfl rfl rfl rfl (by repeat (first | exact Swap.here | apply Swap.there)) rfl ?_
  refine ops_nil ?_
  refine post_next ?_
  refine code_seq_meet (fun σ' I' δ' => ∃ (A : Option Addr) (k : Nat), σ' = [(2, .slice A 2 k)] ∧ I11.le I' ∧ δ' = [] ∧ RepC I' (.slice A 2 k) c11) ?_ ?_
  · refine code_draw (.fl 0 (.fl 1 (.fl 2 (.fl 3 (.fl 6 (.ef 4 (.ef 5 (.fl 7 (.ef 8 (.ef 9 .done)))))))))) (fun _ => _) mixed (by kernel_rfl) (by kernel_rfl) (fun _ => (List.Sublist.refl _)) ?_
    refine e_fl rfl rfl (fun hs_ => PF.mk rfl (v_loadA ty48 rfl rfl) hs_) ?_
    refine e_fl rfl rfl (fun hs_ => PF.mk rfl (v_loadA ty48 rfl rfl) hs_) ?_
    refine e_fl rfl rfl (fun hs_ => PF.mk rfl (v_build (cs := liC A11 a11 c11' a11 c11') bl59 rfl rfl) hs_) ?_
    refine e_fl rfl rfl (fun hs_ => PF.mk rfl (v_loadA ty48 rfl rfl) hs_) ?_
    refine e_fl rfl rfl (fun hs_ => PF.mk rfl (v_loadA ty48 rfl rfl) hs_) ?_
    refine e_eff rfl (by intro cs b hc; cases hc) (by intro c hc; cases hc) ?_
    refine o_buildSlice (xs := [(Go.Operand.tmp 15)]) Tryz.underlying46 bs48 rfl rfl rfl rfl rfl (fun b16 => ?_)
    refine OpsJ.freezeRow Del.here ?_
    rintro I16 a16 c16 hI16 hq hc16 hl16 hcells16
    cases hq
    refine ops_nil ?_
    refine e_next rfl side_allA ?_
    refine e_eff rfl (by intro cs b hc; cases hc) (by intro c hc; cases hc) ?_
    refine op_call pl37 rfl rfl ((Fun_does (by unfold InR; omega) (RowT.repS (ts := [a9]) rfl (hcells16.mono Imm.leA) (RowT.one (hv11.mono Imm.leA)) hc16 (by omega)))) Parts.none ?_
    rintro v17 I17 _ hI17 ⟨hv17, rfl⟩
    change RepT I17 v17 fa11 at hv17
    obtain ⟨a17, c17, rfl, _⟩ := hv17.shape
    refine ops_nil ?_
    refine e_next rfl side_allA ?_
    refine e_fl rfl rfl (fun hs_ => PF.mk rfl (v_build (cs := liC B11 a17 c17 a11 c11') bl59 rfl rfl) hs_) ?_
    refine e_eff rfl (by intro cs b hc; cases hc) (by intro c hc; cases hc) ?_
    refine o_buildSlice (xs := [(Go.Operand.tmp 14), (Go.Operand.tmp 19)]) Tryz.underlying23 bs59 rfl rfl rfl rfl rfl (fun b20 => ?_)
    refine OpsJ.freezeRow Del.here ?_
    rintro I20 a20 c20 hI20 hq hc20 hl20 hcells20
    cases hq
    refine ops_nil ?_
    refine e_next rfl side_allA ?_
    refine e_eff rfl (by intro cs b hc; cases hc) (by intro c hc; cases hc) ?_
    refine op_v (v_assign rfl) rfl ?_
    refine ops_nil ?_
    refine e_next rfl (side_nil (by kernel_rfl)) ?_
    refine e_done ?_
    repeat (refine PostJ.view (View.drop Del.here) ?_)
    exact post_meet _ ⟨_, _, rfl, Imm.leA, rfl, ⟨some ⟨b20, 0, none⟩, 2, _, rfl, Nat.le_refl _, by decide, hcells20, ⟨_, _, rfl, ⟨a11, c11', a11, c11', rfl, hv11.mono Imm.leA, hv11.mono Imm.leA⟩, _, _, rfl, ⟨a17, c17, a11, c11', rfl, hv17.mono Imm.leA, hv11.mono Imm.leA⟩, rfl⟩⟩⟩ ⟨rfl, trivial⟩
  · rintro _ I2 _ ⟨A, k, rfl, hI2, rfl, hc11⟩
    refine code_seq ?_
    refine code_region ?_
    refine op_call pl38 rfl rfl ((toy11_does _)) Parts.none ?_
    rintro v22 I22 _ hI22 ⟨hg22, rfl⟩
    refine op_v (v_move rfl) rfl ?_
    refine op_call pl7 rfl rfl ((Maximal_does (c := c11) (i := 1) (s := true) hg22 (hc11.mono Imm.leA) c11_smC)) Parts.none ?_
    rintro v24 I24 _ hI24 ⟨rfl, rfl⟩
    rw [c11_b1, c11_e1]
    refine op_v (v_move rfl) rfl ?_
    refine op_v (v_extract rfl rfl) rfl ?_
    refine op_v (v_extract rfl rfl) rfl ?_
    refine op_v (v_assign rfl) rfl ?_
    refine op_v (v_assign rfl) rfl ?_
    refine ops_nil ?_
    refine post_next ?_
    refine code_seq ?_
    refine code_region ?_
    refine op_call pl38 rfl rfl ((toy11_does _)) Parts.none ?_
    rintro v28 I28 _ hI28 ⟨hg28, rfl⟩
    refine op_v (v_move rfl) rfl ?_
    refine op_call pl7 rfl rfl ((Maximal_does (c := c11) (i := 0) (s := false) hg28 (hc11.mono Imm.leA) c11_smC)) Parts.none ?_
    rintro v30 I30 _ hI30 ⟨rfl, rfl⟩
    rw [c11_b0, c11_e0]
    refine op_v (v_move rfl) rfl ?_
    refine op_v (v_extract rfl rfl) rfl ?_
    refine op_v (v_extract rfl rfl) rfl ?_
    refine op_v (v_assign rfl) rfl ?_
    refine op_v (v_assign rfl) rfl ?_
    refine ops_nil ?_
    refine post_next ?_
    refine code_seq ?_
    refine code_region ?_
    refine op_call pl38 rfl rfl ((toy11_does _)) Parts.none ?_
    rintro v34 I34 _ hI34 ⟨hg34, rfl⟩
    refine op_v (v_move rfl) rfl ?_
    refine op_call pl9 rfl rfl ((Select_does (c := c11) (how := 1) hg34 (hc11.mono Imm.leA) c11_smC)) Parts.none ?_
    rintro v36 I36 _ hI36 ⟨⟨u36, rfl, hu36⟩, rfl⟩
    have hr36 : selR gs8 c11 1 = [] := by unfold selR; rw [c11_s, if_pos rfl, c11_l]
    rw [hr36] at hu36
    rw [c11_s]
    obtain ⟨ua, uc, rfl⟩ := hu36.shape
    refine op_v (v_move rfl) rfl ?_
    refine op_v (v_extract rfl rfl) rfl ?_
    refine op_v (v_extract rfl rfl) rfl ?_
    refine op_v (v_assign rfl) rfl ?_
    refine op_v (v_assign rfl) rfl ?_
    refine ops_nil ?_
    refine post_next ?_
    refine code_seq ?_
    refine code_region ?_
    refine op_call pl38 rfl rfl ((toy11_does _)) Parts.none ?_
    rintro v40 I40 _ hI40 ⟨hg40, rfl⟩
    refine op_v (v_move rfl) rfl ?_
    refine op_call pl11 rfl rfl ((May_does (c := c11) (how := 1) (i := 1) hg40 (hc11.mono Imm.leA) (repB_nil _) (by intro b hb; cases hb) c11_sm)) Parts.none ?_
    rintro v42 I42 _ hI42 ⟨⟨m42, e42, rfl, hm42⟩, rfl⟩
    obtain ⟨hm1, hm2⟩ := hm42.eq c11_may
    subst hm1
    subst hm2
    refine op_v (v_move rfl) rfl ?_
    refine op_v (v_extract rfl rfl) rfl ?_
    refine op_v (v_extract rfl rfl) rfl ?_
    refine op_v (v_assign rfl) rfl ?_
    refine op_v (v_assign rfl) rfl ?_
    refine ops_nil ?_
    refine post_next ?_
    refine code_seq ?_
    refine code_region ?_
    refine op_v (v_move rfl) rfl ?_
    refine op_v (v_move rfl) rfl ?_
    refine op_want rfl rfl ?_
    refine op_v (v_move rfl) rfl ?_
    first
      | (refine op_want rfl rfl ?_
         refine op_v (v_cmptA rfl rfl rfl) rfl ?_)
      | (refine op_skip rfl rfl (by simp [undef]) rfl ?_)
    refine op_v (v_pickt rfl rfl) rfl ?_
    refine op_v (v_move rfl) rfl ?_
    refine op_want rfl rfl ?_
    refine op_v (v_move rfl) rfl ?_
    refine op_want rfl rfl ?_
    refine op_v (v_not rfl) rfl ?_
    refine op_v (v_pickt rfl rfl) rfl ?_
    refine op_v (v_move rfl) rfl ?_
    refine op_want rfl rfl ?_
    refine op_v (v_move rfl) rfl ?_
    refine op_want rfl rfl ?_
    refine op_v (v_move rfl) rfl ?_
    first
      | (refine op_want rfl rfl ?_
         refine op_v (v_cmptA rfl rfl rfl) rfl ?_)
      | (refine op_skip rfl rfl (by simp [undef]) rfl ?_)
    refine op_v (v_pickt rfl rfl) rfl ?_
    refine op_v (v_move rfl) rfl ?_
    refine op_want rfl rfl ?_
    refine op_v (v_move rfl) rfl ?_
    refine op_want rfl rfl ?_
    refine op_v (v_len Tryz.underlying30 rfl) rfl ?_
    first
      | (refine op_want rfl rfl ?_
         refine op_v (v_cmptA rfl rfl rfl) rfl ?_)
      | (refine op_skip rfl rfl (by simp [undef]) rfl ?_)
    refine op_v (v_pickt rfl rfl) rfl ?_
    refine op_v (v_move rfl) rfl ?_
    refine op_want rfl rfl ?_
    refine op_v (v_move rfl) rfl ?_
    refine op_want rfl rfl ?_
    refine op_v (v_move rfl) rfl ?_
    first
      | (refine op_want rfl rfl ?_
         refine op_v (v_cmptA rfl rfl rfl) rfl ?_)
      | (refine op_skip rfl rfl (by simp [undef]) rfl ?_)
    refine op_v (v_pickt rfl rfl) rfl ?_
    refine op_v (v_move rfl) rfl ?_
    refine op_want rfl rfl ?_
    refine op_v (v_move rfl) rfl ?_
    refine op_v (v_pickt rfl rfl) rfl ?_
    refine op_v (v_move rfl) rfl ?_
    refine op_want rfl rfl ?_
    refine op_v (v_move rfl) rfl ?_
    refine op_want rfl rfl ?_
    refine op_v (v_move rfl) rfl ?_
    first
      | (refine op_want rfl rfl ?_
         refine op_v (v_cmptA rfl rfl rfl) rfl ?_)
      | (refine op_skip rfl rfl (by simp [undef]) rfl ?_)
    refine op_v (v_pickt rfl rfl) rfl ?_
    refine op_v (v_assign rfl) rfl ?_
    refine ops_nil ?_
    refine post_next ?_
    refine code_ret ?_
    refine post_ret (rs := [.tmp 0]) rfl (List.Perm.refl _) (.cons (.tmp rfl) .nil) (List.nil_sublist _) ?_
    exact ⟨rfl, rfl⟩
end Go.Proofs.YtdbadicpbmndbaaGreat
/- Walks: the document's answers on signatures and terms (layers 1 and 7). -/
set_option linter.unusedVariables false
set_option linter.unusedSimpArgs false
/- short -/
namespace Go.Proofs.YtdbadicpbmndbaaGreat
open Go Lg

theorem toList_loop_len (bs : ByteArray) : ∀ (n i : Nat) (r : List UInt8), bs.size - i = n → (ByteArray.toList.loop bs i r).length = r.length + n := by
  intro n
  induction n with
  | zero => intro i r h; rw [ByteArray.toList.loop, if_neg (by omega)]; simp
  | succ n ih => intro i r h; rw [ByteArray.toList.loop, if_pos (by omega), ih (i + 1) _ (by omega)]; simp; omega
theorem toList_len (bs : ByteArray) : bs.toList.length = bs.size := by
  unfold ByteArray.toList; rw [toList_loop_len bs bs.size 0 [] (by omega)]; simp
theorem nmEq_nil {a : ByteArray} : nmEq a ⟨#[]⟩ = true ↔ a.size < 1 := by
  rw [nmEq_iff]
  have h1 := toList_len a
  have h2 : (⟨#[]⟩ : ByteArray).toList = [] := by decide +kernel
  rw [h2]
  constructor
  · intro h; rw [h] at h1; simp at h1; omega
  · intro h; exact List.eq_nil_of_length_eq_zero (by omega)
theorem any_take_false {α : Type} {p : α → Bool} {l : List α} {k : Nat} (h : ∀ i (h : i < l.length), i < k → p l[i] = false) (hk : k ≤ l.length) : (l.take k).any p = false := by
  rw [List.any_eq_false]
  intro x hx
  obtain ⟨i, hi, rfl⟩ := List.getElem_of_mem hx
  rw [List.length_take] at hi
  rw [List.getElem_take, h i (by omega) (by omega)]; simp
theorem any_all_false {α : Type} {p : α → Bool} {l : List α} (h : ∀ i (h : i < l.length), p l[i] = false) : l.any p = false := by
  have := any_take_false (k := l.length) (fun i hi _ => h i hi) (Nat.le_refl _)
  rwa [List.take_length] at this
theorem any_at_true {α : Type} {p : α → Bool} {l : List α} (i : Nat) (hi : i < l.length) (h : p l[i] = true) : l.any p = true := List.any_eq_true.2 ⟨_, List.getElem_mem hi, h⟩
theorem any_take_true {α : Type} {p : α → Bool} {l : List α} (i k : Nat) (hi : i < k) (hk : k ≤ l.length) (h : p (l[i]'(by omega)) = true) : (l.take k).any p = true :=
  List.any_eq_true.2 ⟨_, List.mem_take_iff_getElem.2 ⟨i, by omega, rfl⟩, h⟩

theorem RightR_does {I : Imm} {v : Value} {gs : List Sy} (hv : RepG I v gs) :
    Does Tryz.prog 70 [v] I [] (fun v _ δ' => v = .bool (rightG gs) ∧ δ' = []) := by
  obtain ⟨ad, c, rfl⟩ := hv.shape
  obtain ⟨_, hc, hb, hat, hok⟩ := hv.open
  have hbad : ∀ i (h : i < gs.length), badS (gs.take i) gs[i] = true → rightG gs = false := fun i h hb => by
    cases hr : rightG gs with
    | false => rfl
    | true => rw [rightG_at hr i h] at hb; cases hb
  refine Does.intro Tryz.func70 rfl Tryz.ntmps70 rfl fun w0 => ?_
  refine code_seq ?_
  refine code_region ?_
  refine op_v (v_assign rfl) rfl ?_
  refine ops_nil ?_
  refine post_next ?_
  refine code_seq ?_
  refine code_seq ?_
  refine code_region ?_
  refine op_v (v_move rfl) rfl ?_
  refine op_v (v_len Tryz.underlying22 rfl) rfl ?_
  by_cases h8 : gs.length < 1
  · refine op_v (v_cmptA rfl rfl rfl) rfl ?_
    refine op_v (v_move rfl) rfl ?_
    refine op_skip rfl rfl (by simp [undef]) rfl ?_
    refine op_skip rfl rfl (by simp [undef]) rfl ?_
    refine op_skip rfl rfl (by simp [undef]) rfl ?_
    refine op_v (v_pickt rfl rfl) rfl ?_
    refine ops_nil ?_
    refine post_next ?_
    refine code_cond_t rfl ?_
    refine code_seq ?_
    refine code_region ?_
    refine op_v (v_assign rfl) rfl ?_
    refine ops_nil ?_
    refine post_next ?_
    refine code_ret ?_
    refine post_ret_then ?_
    refine post_ret (rs := [.tmp 2]) rfl (List.Perm.refl _) (.cons (.tmp rfl) .nil) (List.nil_sublist _) ?_
    have : rightG gs = false := by { cases hr : rightG gs; rfl; have := rightG_len hr; omega }
    exact ⟨by rw [this]; rfl, rfl⟩
  · refine op_v (v_cmpfA rfl rfl rfl) rfl ?_
    refine op_v (v_move rfl) rfl ?_
    refine op_want rfl rfl ?_
    refine op_v (v_move rfl) rfl ?_
    refine op_want rfl rfl ?_
    refine op_v (v_len Tryz.underlying22 rfl) rfl ?_
    by_cases h12 : 256 < gs.length
    · first
        | (refine op_want rfl rfl ?_
           refine op_v (v_cmptA rfl rfl rfl) rfl ?_)
        | (refine op_skip rfl rfl (by simp [undef]) rfl ?_)
      refine op_v (v_pickf rfl rfl) rfl ?_
      refine ops_nil ?_
      refine post_next ?_
      refine code_cond_t rfl ?_
      refine code_seq ?_
      refine code_region ?_
      refine op_v (v_assign rfl) rfl ?_
      refine ops_nil ?_
      refine post_next ?_
      refine code_ret ?_
      refine post_ret_then ?_
      refine post_ret (rs := [.tmp 2]) rfl (List.Perm.refl _) (.cons (.tmp rfl) .nil) (List.nil_sublist _) ?_
      have : rightG gs = false := by { cases hr : rightG gs; rfl; have := rightG_len hr; omega }
      exact ⟨by rw [this]; rfl, rfl⟩
    · have h0 : 0 < gs.length := by omega
      have hs0 : ad.isSome = true := (hat 0 h0).isSome
      first
        | (refine op_want rfl rfl ?_
           refine op_v (v_cmpfA rfl rfl rfl) rfl ?_)
        | (refine op_skip rfl rfl (by simp [undef]) rfl ?_)
      refine op_v (v_pickf rfl rfl) rfl ?_
      refine ops_nil ?_
      refine post_next ?_
      refine code_cond_f rfl ?_
      refine code_skip ?_
      refine post_next ?_
      refine code_seq ?_
      refine code_seq ?_
      refine code_region ?_
      refine op_v (v_assign rfl) rfl ?_
      refine ops_nil ?_
      refine post_next ?_
      refine code_block ?_
      refine code_loop (fun m σ' I' δ' => ∃ k : Nat, m = gs.length - k ∧ k ≤ gs.length ∧ σ' = [(0, .slice ad gs.length c), (3, .int .i64 k)] ∧ I = I' ∧ δ' = [] ∧ ∀ i (h : i < gs.length), i < k → badS (gs.take i) gs[i] = false) gs.length [(0, .slice ad gs.length c), (3, .int .i64 (0 : Nat))] ⟨0, rfl, Nat.zero_le _, rfl, rfl, rfl, fun i _ h => by omega⟩ ⟨rfl, rfl, trivial⟩ ?_
      rintro m _ _ _ ⟨k, rfl, hk, rfl, rfl, rfl, hp⟩
      refine code_seq ?_
      refine code_seq ?_
      refine code_region ?_
      refine op_v (v_move rfl) rfl ?_
      refine op_v (v_move rfl) rfl ?_
      refine op_v (v_len Tryz.underlying22 rfl) rfl ?_
      refine op_v (v_cmp rfl rfl rfl) rfl ?_
      refine ops_nil ?_
      refine post_next ?_
      refine code_cond rfl (fun hc1 => ?_) (fun hc1 => ?_)
      · have hlt : k < gs.length := by simpa using hc1
        have hs1 := (hat k hlt).isSome
        refine code_skip ?_
        refine post_next ?_
        refine code_seq ?_
        refine code_block ?_
        refine code_seq ?_
        refine code_region ?_
        refine op_v (v_move rfl) rfl ?_
        refine op_v (v_move rfl) rfl ?_
        refine op_v (v_indexA Tryz.underlying22 sz85 rfl rfl) rfl ?_
        refine op_v (v_loadI0 ty85 (hat k hlt) rfl rfl rfl) rfl ?_
        refine o_alloc z85 rfl rfl (fun b4 => ?_)
        refine o_store ty85 rfl rfl rfl rfl rfl (by repeat (first | exact Swap.here | apply Swap.there)) rfl ?_
        refine ops_nil ?_
        refine post_next ?_
        refine code_seq ?_
        refine code_seq ?_
        refine code_region ?_
        refine op_v (v_fieldB 0 Tryz.underlying85 rfl rfl fz9 rfl) rfl ?_
        refine op_v (v_loadA ty9 rfl rfl) rfl ?_
        refine op_v (v_lens Tryz.underlying9 rfl) rfl ?_
        by_cases h27 : gs[k].name.size < 1
        · refine op_v (v_cmptA rfl rfl rfl) rfl ?_
          refine op_v (v_move rfl) rfl ?_
          refine op_skip rfl rfl (by simp [undef]) rfl ?_
          refine op_skip rfl rfl (by simp [undef]) rfl ?_
          refine op_skip rfl rfl (by simp [undef]) rfl ?_
          refine op_skip rfl rfl (by simp [undef]) rfl ?_
          refine op_v (v_pickt rfl rfl) rfl ?_
          refine op_v (v_move rfl) rfl ?_
          refine op_skip rfl rfl (by simp [undef]) rfl ?_
          refine op_skip rfl rfl (by simp [undef]) rfl ?_
          refine op_skip rfl rfl (by simp [undef]) rfl ?_
          refine op_v (v_pickt rfl rfl) rfl ?_
          refine op_v (v_move rfl) rfl ?_
          refine op_skip rfl rfl (by simp [undef]) rfl ?_
          refine op_skip rfl rfl (by simp [undef]) rfl ?_
          refine op_skip rfl rfl (by simp [undef]) rfl ?_
          refine op_v (v_pickt rfl rfl) rfl ?_
          refine op_v (v_move rfl) rfl ?_
          refine op_skip rfl rfl (by simp [undef]) rfl ?_
          refine op_skip rfl rfl (by simp [undef]) rfl ?_
          refine op_skip rfl rfl (by simp [undef]) rfl ?_
          refine op_v (v_pickt rfl rfl) rfl ?_
          refine op_v (v_move rfl) rfl ?_
          refine op_skip rfl rfl (by simp [undef]) rfl ?_
          refine op_skip rfl rfl (by simp [undef]) rfl ?_
          refine op_skip rfl rfl (by simp [undef]) rfl ?_
          refine op_v (v_pickt rfl rfl) rfl ?_
          refine ops_nil ?_
          refine post_next ?_
          refine code_cond_t rfl ?_
          refine code_seq ?_
          refine code_region ?_
          refine op_v (v_assign rfl) rfl ?_
          refine ops_nil ?_
          refine post_next ?_
          refine code_ret ?_
          refine post_ret_then ?_
          refine post_ret_block ?_
          refine post_ret_then ?_
          refine post_ret_then ?_
          refine post_ret_block ?_
          refine post_ret_then ?_
          refine post_ret (rs := [.tmp 2]) rfl (List.Perm.refl _) (.cons (.tmp rfl) .nil) (List.nil_sublist _) ?_
          exact ⟨by rw [hbad k hlt (by unfold badS; rw [nmEq_nil.2 h27]; rfl)]; rfl, rfl⟩
        · refine op_v (v_cmpfA rfl rfl rfl) rfl ?_
          refine op_v (v_move rfl) rfl ?_
          first
            | (refine op_want rfl rfl ?_
               refine op_v (v_fieldB 0 Tryz.underlying85 rfl rfl fz9 rfl) rfl ?_)
            | (refine op_skip rfl rfl (by simp [undef]) rfl ?_)
          refine op_want rfl rfl ?_
          refine op_v (v_loadA ty9 rfl rfl) rfl ?_
          refine op_want rfl rfl ?_
          refine op_v (v_lens Tryz.underlying9 rfl) rfl ?_
          by_cases h32 : 64 < gs[k].name.size
          · first
              | (refine op_want rfl rfl ?_
                 refine op_v (v_cmptA rfl rfl rfl) rfl ?_)
              | (refine op_skip rfl rfl (by simp [undef]) rfl ?_)
            refine op_v (v_pickf rfl rfl) rfl ?_
            refine op_v (v_move rfl) rfl ?_
            refine op_skip rfl rfl (by simp [undef]) rfl ?_
            refine op_skip rfl rfl (by simp [undef]) rfl ?_
            refine op_skip rfl rfl (by simp [undef]) rfl ?_
            refine op_v (v_pickt rfl rfl) rfl ?_
            refine op_v (v_move rfl) rfl ?_
            refine op_skip rfl rfl (by simp [undef]) rfl ?_
            refine op_skip rfl rfl (by simp [undef]) rfl ?_
            refine op_skip rfl rfl (by simp [undef]) rfl ?_
            refine op_v (v_pickt rfl rfl) rfl ?_
            refine op_v (v_move rfl) rfl ?_
            refine op_skip rfl rfl (by simp [undef]) rfl ?_
            refine op_skip rfl rfl (by simp [undef]) rfl ?_
            refine op_skip rfl rfl (by simp [undef]) rfl ?_
            refine op_v (v_pickt rfl rfl) rfl ?_
            refine op_v (v_move rfl) rfl ?_
            refine op_skip rfl rfl (by simp [undef]) rfl ?_
            refine op_skip rfl rfl (by simp [undef]) rfl ?_
            refine op_skip rfl rfl (by simp [undef]) rfl ?_
            refine op_v (v_pickt rfl rfl) rfl ?_
            refine ops_nil ?_
            refine post_next ?_
            refine code_cond_t rfl ?_
            refine code_seq ?_
            refine code_region ?_
            refine op_v (v_assign rfl) rfl ?_
            refine ops_nil ?_
            refine post_next ?_
            refine code_ret ?_
            refine post_ret_then ?_
            refine post_ret_block ?_
            refine post_ret_then ?_
            refine post_ret_then ?_
            refine post_ret_block ?_
            refine post_ret_then ?_
            refine post_ret (rs := [.tmp 2]) rfl (List.Perm.refl _) (.cons (.tmp rfl) .nil) (List.nil_sublist _) ?_
            exact ⟨by rw [hbad k hlt (by simp [badS, h32])]; rfl, rfl⟩
          · first
              | (refine op_want rfl rfl ?_
                 refine op_v (v_cmpfA rfl rfl rfl) rfl ?_)
              | (refine op_skip rfl rfl (by simp [undef]) rfl ?_)
            refine op_v (v_pickf rfl rfl) rfl ?_
            refine op_v (v_move rfl) rfl ?_
            first
              | (refine op_want rfl rfl ?_
                 refine op_v (v_fieldB 1 Tryz.underlying85 rfl rfl fz3 rfl) rfl ?_)
              | (refine op_skip rfl rfl (by simp [undef]) rfl ?_)
            refine op_want rfl rfl ?_
            refine op_v (v_loadA ty3 rfl rfl) rfl ?_
            by_cases h37 : gs[k].ar < 0
            · first
                | (refine op_want rfl rfl ?_
                   refine op_v (v_cmptA rfl rfl rfl) rfl ?_)
                | (refine op_skip rfl rfl (by simp [undef]) rfl ?_)
              refine op_v (v_pickf rfl rfl) rfl ?_
              refine op_v (v_move rfl) rfl ?_
              refine op_skip rfl rfl (by simp [undef]) rfl ?_
              refine op_skip rfl rfl (by simp [undef]) rfl ?_
              refine op_skip rfl rfl (by simp [undef]) rfl ?_
              refine op_v (v_pickt rfl rfl) rfl ?_
              refine op_v (v_move rfl) rfl ?_
              refine op_skip rfl rfl (by simp [undef]) rfl ?_
              refine op_skip rfl rfl (by simp [undef]) rfl ?_
              refine op_skip rfl rfl (by simp [undef]) rfl ?_
              refine op_v (v_pickt rfl rfl) rfl ?_
              refine op_v (v_move rfl) rfl ?_
              refine op_skip rfl rfl (by simp [undef]) rfl ?_
              refine op_skip rfl rfl (by simp [undef]) rfl ?_
              refine op_skip rfl rfl (by simp [undef]) rfl ?_
              refine op_v (v_pickt rfl rfl) rfl ?_
              refine ops_nil ?_
              refine post_next ?_
              refine code_cond_t rfl ?_
              refine code_seq ?_
              refine code_region ?_
              refine op_v (v_assign rfl) rfl ?_
              refine ops_nil ?_
              refine post_next ?_
              refine code_ret ?_
              refine post_ret_then ?_
              refine post_ret_block ?_
              refine post_ret_then ?_
              refine post_ret_then ?_
              refine post_ret_block ?_
              refine post_ret_then ?_
              refine post_ret (rs := [.tmp 2]) rfl (List.Perm.refl _) (.cons (.tmp rfl) .nil) (List.nil_sublist _) ?_
              exact ⟨by rw [hbad k hlt (by simp [badS, h37])]; rfl, rfl⟩
            · first
                | (refine op_want rfl rfl ?_
                   refine op_v (v_cmpfA rfl rfl rfl) rfl ?_)
                | (refine op_skip rfl rfl (by simp [undef]) rfl ?_)
              refine op_v (v_pickf rfl rfl) rfl ?_
              refine op_v (v_move rfl) rfl ?_
              first
                | (refine op_want rfl rfl ?_
                   refine op_v (v_fieldB 1 Tryz.underlying85 rfl rfl fz3 rfl) rfl ?_)
                | (refine op_skip rfl rfl (by simp [undef]) rfl ?_)
              refine op_want rfl rfl ?_
              refine op_v (v_loadA ty3 rfl rfl) rfl ?_
              by_cases h42 : 8 < gs[k].ar
              · first
                  | (refine op_want rfl rfl ?_
                     refine op_v (v_cmptA rfl rfl rfl) rfl ?_)
                  | (refine op_skip rfl rfl (by simp [undef]) rfl ?_)
                refine op_v (v_pickf rfl rfl) rfl ?_
                refine op_v (v_move rfl) rfl ?_
                refine op_skip rfl rfl (by simp [undef]) rfl ?_
                refine op_skip rfl rfl (by simp [undef]) rfl ?_
                refine op_skip rfl rfl (by simp [undef]) rfl ?_
                refine op_v (v_pickt rfl rfl) rfl ?_
                refine op_v (v_move rfl) rfl ?_
                refine op_skip rfl rfl (by simp [undef]) rfl ?_
                refine op_skip rfl rfl (by simp [undef]) rfl ?_
                refine op_skip rfl rfl (by simp [undef]) rfl ?_
                refine op_v (v_pickt rfl rfl) rfl ?_
                refine ops_nil ?_
                refine post_next ?_
                refine code_cond_t rfl ?_
                refine code_seq ?_
                refine code_region ?_
                refine op_v (v_assign rfl) rfl ?_
                refine ops_nil ?_
                refine post_next ?_
                refine code_ret ?_
                refine post_ret_then ?_
                refine post_ret_block ?_
                refine post_ret_then ?_
                refine post_ret_then ?_
                refine post_ret_block ?_
                refine post_ret_then ?_
                refine post_ret (rs := [.tmp 2]) rfl (List.Perm.refl _) (.cons (.tmp rfl) .nil) (List.nil_sublist _) ?_
                exact ⟨by rw [hbad k hlt (by simp [badS, h42])]; rfl, rfl⟩
              · first
                  | (refine op_want rfl rfl ?_
                     refine op_v (v_cmpfA rfl rfl rfl) rfl ?_)
                  | (refine op_skip rfl rfl (by simp [undef]) rfl ?_)
                refine op_v (v_pickf rfl rfl) rfl ?_
                refine op_v (v_move rfl) rfl ?_
                first
                  | (refine op_want rfl rfl ?_
                     refine op_v (v_fieldB 2 Tryz.underlying85 rfl rfl fz3 rfl) rfl ?_)
                  | (refine op_skip rfl rfl (by simp [undef]) rfl ?_)
                refine op_want rfl rfl ?_
                refine op_v (v_loadA ty3 rfl rfl) rfl ?_
                by_cases h47 : gs[k].wt < 1
                · first
                    | (refine op_want rfl rfl ?_
                       refine op_v (v_cmptA rfl rfl rfl) rfl ?_)
                    | (refine op_skip rfl rfl (by simp [undef]) rfl ?_)
                  refine op_v (v_pickf rfl rfl) rfl ?_
                  refine op_v (v_move rfl) rfl ?_
                  refine op_skip rfl rfl (by simp [undef]) rfl ?_
                  refine op_skip rfl rfl (by simp [undef]) rfl ?_
                  refine op_skip rfl rfl (by simp [undef]) rfl ?_
                  refine op_v (v_pickt rfl rfl) rfl ?_
                  refine ops_nil ?_
                  refine post_next ?_
                  refine code_cond_t rfl ?_
                  refine code_seq ?_
                  refine code_region ?_
                  refine op_v (v_assign rfl) rfl ?_
                  refine ops_nil ?_
                  refine post_next ?_
                  refine code_ret ?_
                  refine post_ret_then ?_
                  refine post_ret_block ?_
                  refine post_ret_then ?_
                  refine post_ret_then ?_
                  refine post_ret_block ?_
                  refine post_ret_then ?_
                  refine post_ret (rs := [.tmp 2]) rfl (List.Perm.refl _) (.cons (.tmp rfl) .nil) (List.nil_sublist _) ?_
                  exact ⟨by rw [hbad k hlt (by simp [badS, h47])]; rfl, rfl⟩
                · first
                    | (refine op_want rfl rfl ?_
                       refine op_v (v_cmpfA rfl rfl rfl) rfl ?_)
                    | (refine op_skip rfl rfl (by simp [undef]) rfl ?_)
                  refine op_v (v_pickf rfl rfl) rfl ?_
                  refine op_v (v_move rfl) rfl ?_
                  first
                    | (refine op_want rfl rfl ?_
                       refine op_v (v_fieldB 2 Tryz.underlying85 rfl rfl fz3 rfl) rfl ?_)
                    | (refine op_skip rfl rfl (by simp [undef]) rfl ?_)
                  refine op_want rfl rfl ?_
                  refine op_v (v_loadA ty3 rfl rfl) rfl ?_
                  by_cases h52 : 1000 < gs[k].wt
                  · first
                      | (refine op_want rfl rfl ?_
                         refine op_v (v_cmptA rfl rfl rfl) rfl ?_)
                      | (refine op_skip rfl rfl (by simp [undef]) rfl ?_)
                    refine op_v (v_pickf rfl rfl) rfl ?_
                    refine ops_nil ?_
                    refine post_next ?_
                    refine code_cond_t rfl ?_
                    refine code_seq ?_
                    refine code_region ?_
                    refine op_v (v_assign rfl) rfl ?_
                    refine ops_nil ?_
                    refine post_next ?_
                    refine code_ret ?_
                    refine post_ret_then ?_
                    refine post_ret_block ?_
                    refine post_ret_then ?_
                    refine post_ret_then ?_
                    refine post_ret_block ?_
                    refine post_ret_then ?_
                    refine post_ret (rs := [.tmp 2]) rfl (List.Perm.refl _) (.cons (.tmp rfl) .nil) (List.nil_sublist _) ?_
                    exact ⟨by rw [hbad k hlt (by simp [badS, h52])]; rfl, rfl⟩
                  · first
                      | (refine op_want rfl rfl ?_
                         refine op_v (v_cmpfA rfl rfl rfl) rfl ?_)
                      | (refine op_skip rfl rfl (by simp [undef]) rfl ?_)
                    refine op_v (v_pickf rfl rfl) rfl ?_
                    refine ops_nil ?_
                    refine post_next ?_
                    refine code_cond_f rfl ?_
                    refine code_skip ?_
                    refine post_next ?_
                    refine code_seq ?_
                    refine code_region ?_
                    refine op_v (v_assign rfl) rfl ?_
                    refine ops_nil ?_
                    refine post_next ?_
                    refine code_block ?_
                    refine code_loop (fun m σ' I' δ' => ∃ j : Nat, m = k - j ∧ j ≤ k ∧ σ' = [(0, .slice ad gs.length c), (3, .int .i64 k), (4, .pointer (some ⟨b4, 0, none⟩)), (5, .int .i64 j)] ∧ I = I' ∧ δ' = [.box b4 85 gs[k].cs] ∧ ∀ i (h : i < gs.length), i < j → nmEq gs[i].name gs[k].name = false) k [(0, .slice ad gs.length c), (3, .int .i64 k), (4, .pointer (some ⟨b4, 0, none⟩)), (5, .int .i64 (0 : Nat))] ⟨0, rfl, Nat.zero_le _, rfl, rfl, rfl, fun i _ h => by omega⟩ ⟨rfl, rfl, rfl, rfl, trivial⟩ ?_
                    rintro m _ _ _ ⟨j, rfl, hj, rfl, rfl, rfl, hq⟩
                    refine code_seq ?_
                    refine code_seq ?_
                    refine code_region ?_
                    refine op_v (v_move rfl) rfl ?_
                    refine op_v (v_move rfl) rfl ?_
                    refine op_v (v_cmp rfl rfl rfl) rfl ?_
                    refine ops_nil ?_
                    refine post_next ?_
                    refine code_cond rfl (fun hc3 => ?_) (fun hc3 => ?_)
                    · have hltj : j < k := by simpa using hc3
                      have hltj2 : j < gs.length := by omega
                      have hs2 := (hat j hltj2).isSome
                      refine code_skip ?_
                      refine post_next ?_
                      refine code_seq ?_
                      refine code_block ?_
                      refine code_seq ?_
                      refine code_draw (.fl 0 (.fl 1 (.fl 2 (.fl 3 (.fl 4 (.fl 5 (.fl 6 (.fl 7 .done)))))))) (fun _ => _) mixed (by kernel_rfl) (by kernel_rfl) (fun _ => (List.Sublist.refl _)) ?_
                      refine e_fl rfl rfl (fun hs_ => PF.mk rfl (v_move rfl) hs_) ?_
                      refine e_fl rfl rfl (fun hs_ => PF.mk rfl (v_move rfl) hs_) ?_
                      refine e_fl rfl rfl (fun hs_ => PF.mk rfl (v_indexA Tryz.underlying22 sz85 rfl rfl) hs_) ?_
                      refine e_fl rfl rfl (fun hs_ => PF.mk rfl (v_fieldI 0 Tryz.underlying85 rfl rfl fz9 rfl (by assumption)) hs_) ?_
                      refine e_fl rfl rfl (fun hs_ => PF.mk rfl (v_loadI0 ty9 (hat j hltj2) rfl rfl rfl) hs_) ?_
                      refine e_fl rfl rfl (fun hs_ => PF.mk rfl (v_fieldB 0 Tryz.underlying85 rfl rfl fz9 rfl) hs_) ?_
                      refine e_fl rfl rfl (fun hs_ => PF.mk rfl (v_loadA ty9 rfl rfl) hs_) ?_
                      refine e_fl rfl rfl (fun hs_ => PF.mk rfl (v_eqs (z := nmEq gs[j].name gs[k].name) rfl rfl rfl) hs_) ?_
                      refine e_done ?_
                      refine post_next ?_
                      refine code_cond rfl (fun hc4 => ?_) (fun hc4 => ?_)
                      · have h66 : nmEq gs[j].name gs[k].name = true := hc4
                        refine code_seq ?_
                        refine code_region ?_
                        refine op_v (v_assign rfl) rfl ?_
                        refine ops_nil ?_
                        refine post_next ?_
                        refine code_ret ?_
                        refine post_ret_block ?_
                        refine post_ret_then ?_
                        refine post_ret_then ?_
                        refine post_ret_block ?_
                        refine post_ret_block ?_
                        refine post_ret_then ?_
                        refine post_ret_then ?_
                        refine post_ret_block ?_
                        refine post_ret_then ?_
                        refine post_ret (rs := [.tmp 2]) rfl (List.Perm.refl _) (.cons (.tmp rfl) .nil) (List.nil_sublist _) ?_
                        exact ⟨by rw [hbad k hlt (by have hx := any_take_true (p := fun s => nmEq s.name gs[k].name) (l := gs) j k hltj (by omega) h66; unfold badS; rw [hx]; simp)]; rfl, rfl⟩
                      · have h66 : nmEq gs[j].name gs[k].name = false := hc4
                        refine code_skip ?_
                        refine post_out ?_
                        refine post_next ?_
                        refine code_region ?_
                        refine op_v (v_move rfl) rfl ?_
                        refine op_v (v_addb rfl rfl rfl (by omega)) rfl ?_
                        refine op_v (v_assign rfl) rfl ?_
                        refine ops_nil ?_
                        refine post_again (k - (j + 1)) [(0, .slice ad gs.length c), (3, .int .i64 k), (4, .pointer (some ⟨b4, 0, none⟩)), (5, .int .i64 (j + 1 : Nat))] (by omega) ⟨j + 1, rfl, hltj, rfl, rfl, rfl, ?_⟩ ⟨rfl, rfl, rfl, rfl, trivial⟩
                        intro i h hi
                        rcases Nat.lt_or_ge i j with hik | hik
                        · exact hq i h hik
                        have hik2 : i = j := by omega
                        subst hik2
                        exact h66
                    · have hgej : j = k := by simp at hc3; omega
                      refine code_exit ?_
                      refine post_exit_then ?_
                      refine post_exit_then ?_
                      refine post_exit ?_
                      refine post_out ?_
                      refine post_next ?_
                      refine code_region ?_
                      refine op_v (v_move rfl) rfl ?_
                      refine op_v (v_addb rfl rfl rfl (by omega)) rfl ?_
                      refine op_v (v_assign rfl) rfl ?_
                      refine ops_nil ?_
                      refine PostJ.view View.nil ?_
                      refine post_again (gs.length - (k + 1)) [(0, .slice ad gs.length c), (3, .int .i64 (k + 1 : Nat))] (by omega) ⟨k + 1, rfl, hlt, rfl, rfl, rfl, ?_⟩ ⟨rfl, rfl, trivial⟩
                      intro i h hi
                      rcases Nat.lt_or_ge i k with hik | hik
                      · exact hp i h hik
                      have hik2 : i = k := by omega
                      subst hik2
                      have h35 : nmEq gs[i].name ⟨#[]⟩ = false := by { cases hn : nmEq gs[i].name ⟨#[]⟩; rfl; exact absurd (nmEq_nil.1 hn) h27 }
                      have h43 := any_take_false (p := fun s => nmEq s.name gs[i].name) (k := i) (fun i2 h2 h3 => hq i2 h2 (by omega)) (by omega)
                      unfold badS
                      rw [h35, h43]
                      simp; omega
      · have hge : k = gs.length := by simp at hc1; omega
        refine code_exit ?_
        refine post_exit_then ?_
        refine post_exit_then ?_
        refine post_exit ?_
        refine post_next ?_
        refine code_seq ?_
        refine code_region ?_
        refine op_v (v_move rfl) rfl ?_
        refine op_v (v_indexA Tryz.underlying22 sz85 rfl rfl) rfl ?_
        refine op_v (v_loadI0 (m := 0) ty85 (by have := hat 0 h0; simpa using this) rfl rfl rfl) rfl ?_
        refine op_v (v_build bl85 rfl rfl) rfl ?_
        refine op_v (v_eqSy (a := gs[0]'h0) (b := truthS) (z := syEq (gs[0]'h0) truthS) syTy rfl rfl rfl) rfl ?_
        refine op_v (v_assign rfl) rfl ?_
        refine ops_nil ?_
        refine post_next ?_
        refine code_ret ?_
        refine post_ret (rs := [.tmp 2]) rfl (List.Perm.refl _) (.cons (.tmp rfl) .nil) (List.nil_sublist _) ?_
        have hall : ∀ i (h : i < gs.length), badS (gs.take i) gs[i] = false := fun i h => hp i h (by omega)
        have : rightG gs = syEq (gs[0]'h0) truthS := by
          cases hq : syEq (gs[0]'h0) truthS with
          | true => exact rightG_of h0 (by omega) hq hall
          | false =>
            cases hr : rightG gs with
            | false => rfl
            | true =>
              have h1 := chkG_head h0 (by rw [hq]; simp)
              simp [chkG, hr] at h1
        exact ⟨by rw [this]; rfl, rfl⟩

theorem Depth_does : ∀ (n : Nat) (t : T), t.size ≤ n → t.size ≤ 1000000000 → ∀ (I : Imm) (v : Value), RepT I v t →
    Does Tryz.prog 161 [v] I [] (fun v I' δ' => v = .int .i64 (depT t) ∧ δ' = []) := by
  intro n
  induction n with
  | zero => intro t ht; have := t.size_pos; omega
  | succ n ih =>
    intro t ht hbig I v hv
    obtain ⟨h, ts⟩ := t
    obtain ⟨ad, c, ss, rfl, hr, hc, hb, hat, hsub⟩ := hv.elim
    have hsz : (T.mk h ts).size = 1 + sizeL ts := by simp [T.size]
    have hds := depT_size (.mk h ts)
    refine Does.intro Tryz.func161 rfl Tryz.ntmps161 rfl fun w0 => ?_
    refine code_seq ?_
    refine code_region ?_
    refine o_box rfl rfl rfl (fun b1 => ?_)
    refine op_v (v_assign rfl) rfl ?_
    refine ops_nil ?_
    refine post_next ?_
    refine code_seq ?_
    refine code_region ?_
    refine op_v (v_assign rfl) rfl ?_
    refine ops_nil ?_
    refine post_next ?_
    refine code_seq ?_
    refine code_seq ?_
    refine code_region ?_
    refine op_v (v_assign rfl) rfl ?_
    refine ops_nil ?_
    refine post_next ?_
    refine code_block ?_
    refine code_loop (fun m σ' I' δ' => ∃ k : Nat, m = ts.length - k ∧ k ≤ ts.length ∧ σ' = [(1, .pointer (some ⟨b1, 0, none⟩)), (3, .int .i64 (depL (ts.take k) : Nat)), (4, .int .i64 k)] ∧ I.le I' ∧ δ' = [.box b1 48 [.int .i64 h, .slice ad ts.length c]]) ts.length [(1, .pointer (some ⟨b1, 0, none⟩)), (3, .int .i64 (0 : Nat)), (4, .int .i64 (0 : Nat))] ⟨0, rfl, Nat.zero_le _, rfl, Imm.le_refl _, rfl⟩ ⟨rfl, rfl, rfl, trivial⟩ ?_
    rintro m _ I0 _ ⟨k, rfl, hk, rfl, hI0, rfl⟩
    refine code_seq ?_
    refine code_seq ?_
    refine code_region ?_
    refine op_v (v_move rfl) rfl ?_
    refine op_v (v_fieldB 1 Tryz.underlying48 rfl rfl fz46 rfl) rfl ?_
    refine op_v (v_loadA ty46 rfl rfl) rfl ?_
    refine op_v (v_len Tryz.underlying46 rfl) rfl ?_
    refine op_v (v_cmp rfl rfl rfl) rfl ?_
    refine ops_nil ?_
    refine post_next ?_
    refine code_cond rfl (fun hc0 => ?_) (fun hc0 => ?_)
    · have hlt : k < ts.length := by simpa using hc0
      have hs1 := (hat k hlt).isSome
      have hm := sizeL_mem ts k hlt
      refine code_skip ?_
      refine post_next ?_
      refine code_seq ?_
      refine code_block ?_
      refine code_region ?_
      refine op_v (v_move rfl) rfl ?_
      refine op_v (v_fieldB 1 Tryz.underlying48 rfl rfl fz46 rfl) rfl ?_
      refine op_v (v_loadA ty46 rfl rfl) rfl ?_
      refine op_v (v_move rfl) rfl ?_
      refine op_v (v_indexA Tryz.underlying46 sz48 rfl rfl) rfl ?_
      refine op_v (v_loadI0 ty48 ((hat k hlt).mono hI0) rfl rfl rfl) rfl ?_
      refine op_call pl161 rfl rfl ((ih ts[k] (by omega) (by omega) _ _ ((hsub k hlt).mono hI0))) Parts.none ?_
      rintro _ I18 _ hI18 ⟨rfl, rfl⟩
      refine op_v (v_max rfl rfl) rfl ?_
      refine op_v (v_assign rfl) rfl ?_
      refine ops_nil ?_
      refine post_out ?_
      refine post_next ?_
      refine code_region ?_
      refine op_v (v_move rfl) rfl ?_
      refine op_v (v_addb rfl rfl rfl (by omega)) rfl ?_
      refine op_v (v_assign rfl) rfl ?_
      refine ops_nil ?_
      refine post_again (ts.length - (k + 1)) [(1, .pointer (some ⟨b1, 0, none⟩)), (3, .int .i64 (max (depL (ts.take k) : Nat) (depT ts[k] : Nat))), (4, .int .i64 ((k + 1 : Nat) : Int))] (by omega) ⟨k + 1, rfl, hlt, by rw [depL_take ts k hlt]; congr 4; omega, Imm.le_trans hI0 hI18, rfl⟩ ⟨rfl, rfl, rfl, trivial⟩
    · have hge : k = ts.length := by simp at hc0; omega
      refine code_exit ?_
      refine post_exit_then ?_
      refine post_exit_then ?_
      refine post_exit ?_
      refine post_next ?_
      refine code_seq ?_
      refine code_region ?_
      rw [hge, List.take_length]
      have h2 : depT (T.mk h ts) = 1 + depL ts := by simp [depT]
      have hdl : depL ts ≤ 1000000000 := by omega
      refine op_v (v_move rfl) rfl ?_
      refine op_v (v_addb rfl rfl rfl (by omega)) rfl ?_
      refine op_v (v_assign rfl) rfl ?_
      refine ops_nil ?_
      refine post_next ?_
      refine code_ret ?_
      refine post_ret (rs := [.tmp 2]) rfl (List.Perm.refl _) (.cons (.tmp rfl) .nil) (List.nil_sublist _) ?_
      exact ⟨by simp only [outV, depT]; congr 2; omega, rfl⟩
end Go.Proofs.YtdbadicpbmndbaaGreat
