/- Walks: whether a literal is one of a signature; how two stand. -/
import Derived.Test.YtegceppoioeeaaaNa
set_option linter.unusedVariables false
set_option linter.unusedSimpArgs false
set_option linter.unnecessarySimpa false
/- short -/
namespace Go.Proofs.Ytegceppoioeeaaa
open Go Lg

abbrev siC (g : Value) (x : Li) (la : Option Addr) (lc : Nat) (ra : Option Addr) (rc : Nat) : List Value := g :: liC x la lc ra rc
def trL (gs : List Sy) (t : T) : Bool := decide (0 ≤ t.head) && trG gs t.head
def sortL (gs : List Sy) (x : Li) : Bool := (trL gs x.l && decide (x.r.head ≠ 0)) || (!trL gs x.l && trL gs x.r)
def litG (gs : List Sy) (x : Li) : Int := if termG gs x.l ≠ 0 then termG gs x.l else if termG gs x.r ≠ 0 then termG gs x.r else if sortL gs x = true then 10 else 0
theorem litG_ok {gs : List Sy} {x : Li} (h : litG gs x = 0) : OkG gs x.l ∧ OkG gs x.r := by
  unfold litG at h
  by_cases h1 : termG gs x.l = 0
  · by_cases h2 : termG gs x.r = 0
    · exact ⟨termG_ok.1 h1, termG_ok.1 h2⟩
    · rw [if_neg (by omega), if_pos h2] at h; exact absurd h h2
  · rw [if_pos h1] at h; exact absurd h h1
theorem left_does {I : Imm} {vg : Value} {gs : List Sy} {x : Li} {la ra : Option Addr} {lc rc : Nat} (hg : RepG I vg gs) (hl : RepT I (.agg #[.int .i64 x.l.head, .slice la x.l.args.length lc]) x.l) (h1 : x.l.size ≤ 1000000000) :
    Does Try.prog 54 [.agg #[vg, .bool x.neg, .int .i64 x.l.head, .slice la x.l.args.length lc, .int .i64 x.r.head, .slice ra x.r.args.length rc]] I [] (fun v _ δ' => v = .int .i64 (termG gs x.l) ∧ δ' = []) := by
  obtain ⟨ga, gc, rfl⟩ := hg.shape
  refine Does.intro Try.func54 rfl Try.ntmps54 rfl fun w0 => ?_
  refine code_seq ?_
  refine code_region ?_
  refine o_box rfl rfl rfl (fun b1 => ?_)
  refine op_v (v_assign rfl) rfl ?_
  refine ops_nil ?_
  refine post_next ?_
  refine code_seq ?_
  refine code_region ?_
  first | refine op_v (v_fieldB 0 Try.underlying79 rfl rfl fz22 rfl) rfl ?_ | refine op_v (v_fieldI 0 Try.underlying79 rfl rfl fz22 rfl (by assumption)) rfl ?_ | refine op_v (v_field Try.underlying79 rfl fz22 rfl rfl) rfl ?_
  refine op_v (v_loadA ty22 rfl rfl) rfl ?_
  first | refine op_v (v_fieldB 1 Try.underlying79 rfl rfl fz27 rfl) rfl ?_ | refine op_v (v_fieldI 1 Try.underlying79 rfl rfl fz27 rfl (by assumption)) rfl ?_ | refine op_v (v_field Try.underlying79 rfl fz27 rfl rfl) rfl ?_
  first | refine op_v (v_fieldB 1 Try.underlying27 rfl rfl fz25 rfl) rfl ?_ | refine op_v (v_fieldI 1 Try.underlying27 rfl rfl fz25 rfl (by assumption)) rfl ?_ | refine op_v (v_field Try.underlying27 rfl fz25 rfl rfl) rfl ?_
  refine op_v (v_loadA ty25 rfl rfl) rfl ?_
  refine op_call pl78 rfl rfl ((GTerm_does (hg.mono Imm.leA) (hl.mono Imm.leA) h1)) Parts.none ?_
  rintro _ I8 _ hI8 ⟨rfl, rfl⟩
  refine op_v (v_assign rfl) rfl ?_
  refine ops_nil ?_
  refine post_next ?_
  refine code_ret ?_
  refine post_ret (rs := [.tmp 2]) rfl (List.Perm.refl _) (.cons (.tmp rfl) .nil) (List.nil_sublist _) ?_
  exact ⟨rfl, rfl⟩
theorem right_does {I : Imm} {vg : Value} {gs : List Sy} {x : Li} {la ra : Option Addr} {lc rc : Nat} (hg : RepG I vg gs) (hl : RepT I (.agg #[.int .i64 x.r.head, .slice ra x.r.args.length rc]) x.r) (h1 : x.r.size ≤ 1000000000) :
    Does Try.prog 55 [.agg #[vg, .bool x.neg, .int .i64 x.l.head, .slice la x.l.args.length lc, .int .i64 x.r.head, .slice ra x.r.args.length rc]] I [] (fun v _ δ' => v = .int .i64 (termG gs x.r) ∧ δ' = []) := by
  obtain ⟨ga, gc, rfl⟩ := hg.shape
  refine Does.intro Try.func55 rfl Try.ntmps55 rfl fun w0 => ?_
  refine code_seq ?_
  refine code_region ?_
  refine o_box rfl rfl rfl (fun b1 => ?_)
  refine op_v (v_assign rfl) rfl ?_
  refine ops_nil ?_
  refine post_next ?_
  refine code_seq ?_
  refine code_region ?_
  first | refine op_v (v_fieldB 0 Try.underlying79 rfl rfl fz22 rfl) rfl ?_ | refine op_v (v_fieldI 0 Try.underlying79 rfl rfl fz22 rfl (by assumption)) rfl ?_ | refine op_v (v_field Try.underlying79 rfl fz22 rfl rfl) rfl ?_
  refine op_v (v_loadA ty22 rfl rfl) rfl ?_
  first | refine op_v (v_fieldB 1 Try.underlying79 rfl rfl fz27 rfl) rfl ?_ | refine op_v (v_fieldI 1 Try.underlying79 rfl rfl fz27 rfl (by assumption)) rfl ?_ | refine op_v (v_field Try.underlying79 rfl fz27 rfl rfl) rfl ?_
  first | refine op_v (v_fieldB 3 Try.underlying27 rfl rfl fz25 rfl) rfl ?_ | refine op_v (v_fieldI 3 Try.underlying27 rfl rfl fz25 rfl (by assumption)) rfl ?_ | refine op_v (v_field Try.underlying27 rfl fz25 rfl rfl) rfl ?_
  refine op_v (v_loadA ty25 rfl rfl) rfl ?_
  refine op_call pl78 rfl rfl ((GTerm_does (hg.mono Imm.leA) (hl.mono Imm.leA) h1)) Parts.none ?_
  rintro _ I8 _ hI8 ⟨rfl, rfl⟩
  refine op_v (v_assign rfl) rfl ?_
  refine ops_nil ?_
  refine post_next ?_
  refine code_ret ?_
  refine post_ret (rs := [.tmp 2]) rfl (List.Perm.refl _) (.cons (.tmp rfl) .nil) (List.nil_sublist _) ?_
  exact ⟨rfl, rfl⟩
theorem truth_does {I : Imm} {vg v : Value} {gs : List Sy} {t : T} {cs : List Value} (hg : RepG I vg gs) (hv : RepT I v t) (h5 : ∃ a b c d e, cs = [a, b, c, d, e]) (hh : 0 ≤ t.head → t.head < gs.length) :
    Does Try.prog 89 [.agg (vg :: cs).toArray, v] I [] (fun v _ δ' => v = .bool (trL gs t) ∧ δ' = []) := by
  obtain ⟨a, b, c, d, e, rfl⟩ := h5
  obtain ⟨ga, gc, rfl⟩ := hg.shape
  obtain ⟨_, hgc, hgb, hgat, hgok⟩ := hg.open
  obtain ⟨a0, c0, rfl, hr0⟩ := hv.shape
  refine Does.intro Try.func89 rfl Try.ntmps89 rfl fun w0 => ?_
  refine code_seq ?_
  refine code_region ?_
  refine o_box rfl rfl rfl (fun b2 => ?_)
  refine o_box rfl rfl rfl (fun b3 => ?_)
  refine op_v (v_assign rfl) rfl ?_
  refine ops_nil ?_
  refine post_next ?_
  refine code_seq ?_
  refine code_region ?_
  first | refine op_v (v_fieldB 0 Try.underlying25 rfl rfl fz3 rfl) rfl ?_ | refine op_v (v_fieldI 0 Try.underlying25 rfl rfl fz3 rfl (by assumption)) rfl ?_ | refine op_v (v_field Try.underlying25 rfl fz3 rfl rfl) rfl ?_
  refine op_v (v_loadA ty3 rfl rfl) rfl ?_
  by_cases h7 : 0 ≤ t.head
  · have hl0 := hh h7
    have hlt0 : t.head.toNat < gs.length := by omega
    have hs0 := (hgat _ hlt0).isSome
    first | refine op_v (v_cmptA rfl rfl rfl) rfl ?_ | refine op_v (v_cmpfA rfl rfl rfl) rfl ?_ | refine op_v (v_cmp rfl rfl rfl) rfl ?_
    refine op_v (v_move rfl) rfl ?_
    first
      | (refine op_want rfl rfl ?_
         first | refine op_v (v_fieldB 0 Try.underlying79 rfl rfl fz22 rfl) rfl ?_ | refine op_v (v_fieldI 0 Try.underlying79 rfl rfl fz22 rfl (by assumption)) rfl ?_ | refine op_v (v_field Try.underlying79 rfl fz22 rfl rfl) rfl ?_)
      | (refine op_skip rfl rfl (by simp [undef]) rfl ?_)
    first
      | (refine op_want rfl rfl ?_
         refine op_v (v_loadA ty22 rfl rfl) rfl ?_)
      | (refine op_skip rfl rfl (by simp [undef]) rfl ?_)
    first
      | (refine op_want rfl rfl ?_
         first | refine op_v (v_fieldB 0 Try.underlying25 rfl rfl fz3 rfl) rfl ?_ | refine op_v (v_fieldI 0 Try.underlying25 rfl rfl fz3 rfl (by assumption)) rfl ?_ | refine op_v (v_field Try.underlying25 rfl fz3 rfl rfl) rfl ?_)
      | (refine op_skip rfl rfl (by simp [undef]) rfl ?_)
    first
      | (refine op_want rfl rfl ?_
         refine op_v (v_loadA ty3 rfl rfl) rfl ?_)
      | (refine op_skip rfl rfl (by simp [undef]) rfl ?_)
    first
      | (refine op_want rfl rfl ?_
         first | refine op_v (v_indexA Try.underlying22 sz71 rfl rfl) rfl ?_ | refine op_v (v_indexIA Try.underlying22 sz71 rfl rfl) rfl ?_)
      | (refine op_skip rfl rfl (by simp [undef]) rfl ?_)
    first
      | (refine op_want rfl rfl ?_
         first | refine op_v (v_fieldB 3 Try.underlying71 rfl rfl fz4 rfl) rfl ?_ | refine op_v (v_fieldI 3 Try.underlying71 rfl rfl fz4 rfl (by assumption)) rfl ?_ | refine op_v (v_field Try.underlying71 rfl fz4 rfl rfl) rfl ?_)
      | (refine op_skip rfl rfl (by simp [undef]) rfl ?_)
    first
      | (refine op_want rfl rfl ?_
         first | refine op_v (v_loadI0 ty4 (hgat _ hlt0) rfl rfl rfl) rfl ?_ | refine op_v (v_loadI ty4 (hgat _ hlt0) rfl rfl rfl) rfl ?_)
      | (refine op_skip rfl rfl (by simp [undef]) rfl ?_)
    first | refine op_v (v_pickt rfl rfl) rfl ?_ | refine op_v (v_pickf rfl rfl) rfl ?_ | refine op_v (v_pickb rfl rfl rfl) rfl ?_
    refine op_v (v_assign rfl) rfl ?_
    refine ops_nil ?_
    refine post_next ?_
    refine code_ret ?_
    refine post_ret (rs := [.tmp 4]) rfl (List.Perm.refl _) (.cons (.tmp rfl) .nil) (List.nil_sublist _) ?_
    exact ⟨by simp [outV, trL, h7, trG_at h7 hl0], rfl⟩
  · first | refine op_v (v_cmptA rfl rfl rfl) rfl ?_ | refine op_v (v_cmpfA rfl rfl rfl) rfl ?_ | refine op_v (v_cmp rfl rfl rfl) rfl ?_
    refine op_v (v_move rfl) rfl ?_
    first
      | (refine op_want rfl rfl ?_
         first | refine op_v (v_fieldB 0 Try.underlying79 rfl rfl fz22 rfl) rfl ?_ | refine op_v (v_fieldI 0 Try.underlying79 rfl rfl fz22 rfl (by assumption)) rfl ?_ | refine op_v (v_field Try.underlying79 rfl fz22 rfl rfl) rfl ?_)
      | (refine op_skip rfl rfl (by simp [undef]) rfl ?_)
    first
      | (refine op_want rfl rfl ?_
         refine op_v (v_loadA ty22 rfl rfl) rfl ?_)
      | (refine op_skip rfl rfl (by simp [undef]) rfl ?_)
    first
      | (refine op_want rfl rfl ?_
         first | refine op_v (v_fieldB 0 Try.underlying25 rfl rfl fz3 rfl) rfl ?_ | refine op_v (v_fieldI 0 Try.underlying25 rfl rfl fz3 rfl (by assumption)) rfl ?_ | refine op_v (v_field Try.underlying25 rfl fz3 rfl rfl) rfl ?_)
      | (refine op_skip rfl rfl (by simp [undef]) rfl ?_)
    first
      | (refine op_want rfl rfl ?_
         refine op_v (v_loadA ty3 rfl rfl) rfl ?_)
      | (refine op_skip rfl rfl (by simp [undef]) rfl ?_)
    first
      | (refine op_want rfl rfl ?_
         first | refine op_v (v_indexA Try.underlying22 sz71 rfl rfl) rfl ?_ | refine op_v (v_indexIA Try.underlying22 sz71 rfl rfl) rfl ?_)
      | (refine op_skip rfl rfl (by simp [undef]) rfl ?_)
    first
      | (refine op_want rfl rfl ?_
         first | refine op_v (v_fieldB 3 Try.underlying71 rfl rfl fz4 rfl) rfl ?_ | refine op_v (v_fieldI 3 Try.underlying71 rfl rfl fz4 rfl (by assumption)) rfl ?_ | refine op_v (v_field Try.underlying71 rfl fz4 rfl rfl) rfl ?_)
      | (refine op_skip rfl rfl (by simp [undef]) rfl ?_)
    first
      | (refine op_want rfl rfl ?_
         first | refine op_v (v_loadI0 ty4 (hgat _ hlt0) rfl rfl rfl) rfl ?_ | refine op_v (v_loadI ty4 (hgat _ hlt0) rfl rfl rfl) rfl ?_)
      | (refine op_skip rfl rfl (by simp [undef]) rfl ?_)
    first | refine op_v (v_pickt rfl rfl) rfl ?_ | refine op_v (v_pickf rfl rfl) rfl ?_ | refine op_v (v_pickb rfl rfl rfl) rfl ?_
    refine op_v (v_assign rfl) rfl ?_
    refine ops_nil ?_
    refine post_next ?_
    refine code_ret ?_
    refine post_ret (rs := [.tmp 4]) rfl (List.Perm.refl _) (.cons (.tmp rfl) .nil) (List.nil_sublist _) ?_
    exact ⟨by simp [outV, trL, h7], rfl⟩
theorem sorts_does {I : Imm} {vg : Value} {gs : List Sy} {x : Li} {la ra : Option Addr} {lc rc : Nat} (hg : RepG I vg gs) (hl : RepT I (.agg #[.int .i64 x.l.head, .slice la x.l.args.length lc]) x.l) (hr : RepT I (.agg #[.int .i64 x.r.head, .slice ra x.r.args.length rc]) x.r) (h1 : 0 ≤ x.l.head → x.l.head < gs.length) (h2 : 0 ≤ x.r.head → x.r.head < gs.length) :
    Does Try.prog 56 [.agg #[vg, .bool x.neg, .int .i64 x.l.head, .slice la x.l.args.length lc, .int .i64 x.r.head, .slice ra x.r.args.length rc]] I [] (fun v _ δ' => v = .int .i64 (if sortL gs x = true then 10 else 0) ∧ δ' = []) := by
  obtain ⟨ga, gc, rfl⟩ := hg.shape
  refine Does.intro Try.func56 rfl Try.ntmps56 rfl fun w0 => ?_
  refine code_seq ?_
  refine code_region ?_
  refine o_box rfl rfl rfl (fun b1 => ?_)
  refine op_v (v_assign rfl) rfl ?_
  refine ops_nil ?_
  refine post_next ?_
  refine code_seq ?_
  refine code_region ?_
  refine op_v (v_load6 ty79 rfl rfl) rfl ?_
  first | refine op_v (v_fieldB 1 Try.underlying79 rfl rfl fz27 rfl) rfl ?_ | refine op_v (v_fieldI 1 Try.underlying79 rfl rfl fz27 rfl (by assumption)) rfl ?_ | refine op_v (v_field Try.underlying79 rfl fz27 rfl rfl) rfl ?_
  first | refine op_v (v_fieldB 1 Try.underlying27 rfl rfl fz25 rfl) rfl ?_ | refine op_v (v_fieldI 1 Try.underlying27 rfl rfl fz25 rfl (by assumption)) rfl ?_ | refine op_v (v_field Try.underlying27 rfl fz25 rfl rfl) rfl ?_
  refine op_v (v_loadA ty25 rfl rfl) rfl ?_
  refine op_call pl89 rfl rfl ((truth_does (cs := liC x la lc ra rc) (hg.mono Imm.leA) (hl.mono Imm.leA) ⟨_, _, _, _, _, rfl⟩ h1)) Parts.none ?_
  rintro _ I8 _ hI8 ⟨rfl, rfl⟩
  refine op_v (v_assign rfl) rfl ?_
  refine ops_nil ?_
  refine post_next ?_
  refine code_seq ?_
  refine code_seq ?_
  refine code_region ?_
  by_cases e1 : trL gs x.l = true
  · rw [e1]
    refine op_v (v_move rfl) rfl ?_
    refine op_v (v_move rfl) rfl ?_
    first
      | (refine op_want rfl rfl ?_
         first | refine op_v (v_fieldB 1 Try.underlying79 rfl rfl fz27 rfl) rfl ?_ | refine op_v (v_fieldI 1 Try.underlying79 rfl rfl fz27 rfl (by assumption)) rfl ?_ | refine op_v (v_field Try.underlying79 rfl fz27 rfl rfl) rfl ?_)
      | (refine op_skip rfl rfl (by simp [undef]) rfl ?_)
    first
      | (refine op_want rfl rfl ?_
         first | refine op_v (v_fieldB 3 Try.underlying27 rfl rfl fz25 rfl) rfl ?_ | refine op_v (v_fieldI 3 Try.underlying27 rfl rfl fz25 rfl (by assumption)) rfl ?_ | refine op_v (v_field Try.underlying27 rfl fz25 rfl rfl) rfl ?_)
      | (refine op_skip rfl rfl (by simp [undef]) rfl ?_)
    first
      | (refine op_want rfl rfl ?_
         first | refine op_v (v_fieldB 0 Try.underlying25 rfl rfl fz3 rfl) rfl ?_ | refine op_v (v_fieldI 0 Try.underlying25 rfl rfl fz3 rfl (by assumption)) rfl ?_ | refine op_v (v_field Try.underlying25 rfl fz3 rfl rfl) rfl ?_)
      | (refine op_skip rfl rfl (by simp [undef]) rfl ?_)
    first
      | (refine op_want rfl rfl ?_
         refine op_v (v_loadA ty3 rfl rfl) rfl ?_)
      | (refine op_skip rfl rfl (by simp [undef]) rfl ?_)
    by_cases e2 : x.r.head ≠ 0
    · first
        | (refine op_want rfl rfl ?_
           first | refine op_v (v_cmptA rfl rfl rfl) rfl ?_ | refine op_v (v_cmpfA rfl rfl rfl) rfl ?_ | refine op_v (v_cmp rfl rfl rfl) rfl ?_)
        | (refine op_skip rfl rfl (by simp [undef]) rfl ?_)
      first | refine op_v (v_pickt rfl rfl) rfl ?_ | refine op_v (v_pickf rfl rfl) rfl ?_ | refine op_v (v_pickb rfl rfl rfl) rfl ?_
      refine op_v (v_move rfl) rfl ?_
      first
        | (refine op_want rfl rfl ?_
           refine op_v (v_move rfl) rfl ?_)
        | (refine op_skip rfl rfl (by simp [undef]) rfl ?_)
      first
        | (refine op_want rfl rfl ?_
           refine op_v (v_not rfl) rfl ?_)
        | (refine op_skip rfl rfl (by simp [undef]) rfl ?_)
      first
        | (refine op_want rfl rfl ?_
           refine op_v (v_move rfl) rfl ?_)
        | (refine op_skip rfl rfl (by simp [undef]) rfl ?_)
      first
        | (refine op_want rfl rfl ?_
           refine op_v (v_load6 ty79 rfl rfl) rfl ?_)
        | (refine op_skip rfl rfl (by simp [undef]) rfl ?_)
      first
        | (refine op_want rfl rfl ?_
           first | refine op_v (v_fieldB 1 Try.underlying79 rfl rfl fz27 rfl) rfl ?_ | refine op_v (v_fieldI 1 Try.underlying79 rfl rfl fz27 rfl (by assumption)) rfl ?_ | refine op_v (v_field Try.underlying79 rfl fz27 rfl rfl) rfl ?_)
        | (refine op_skip rfl rfl (by simp [undef]) rfl ?_)
      first
        | (refine op_want rfl rfl ?_
           first | refine op_v (v_fieldB 3 Try.underlying27 rfl rfl fz25 rfl) rfl ?_ | refine op_v (v_fieldI 3 Try.underlying27 rfl rfl fz25 rfl (by assumption)) rfl ?_ | refine op_v (v_field Try.underlying27 rfl fz25 rfl rfl) rfl ?_)
        | (refine op_skip rfl rfl (by simp [undef]) rfl ?_)
      first
        | (refine op_want rfl rfl ?_
           refine op_v (v_loadA ty25 rfl rfl) rfl ?_)
        | (refine op_skip rfl rfl (by simp [undef]) rfl ?_)
      first
        | (refine op_want rfl rfl ?_
           refine op_call pl89 rfl rfl ((truth_does (cs := liC x la lc ra rc) (hg.mono Imm.leA) (hr.mono Imm.leA) ⟨_, _, _, _, _, rfl⟩ h2)) Parts.none ?_
           rintro _ I25 _ hI25 ⟨rfl, rfl⟩)
        | (refine op_skip rfl rfl (by simp [undef]) rfl ?_)
      first
        | (refine op_want rfl rfl ?_
           first | refine op_v (v_pickt rfl rfl) rfl ?_ | refine op_v (v_pickf rfl rfl) rfl ?_ | refine op_v (v_pickb rfl rfl rfl) rfl ?_)
        | (refine op_skip rfl rfl (by simp [undef]) rfl ?_)
      first | refine op_v (v_pickt rfl rfl) rfl ?_ | refine op_v (v_pickf rfl rfl) rfl ?_ | refine op_v (v_pickb rfl rfl rfl) rfl ?_
      refine ops_nil ?_
      refine post_next ?_
      refine code_cond_t rfl ?_
      refine code_seq ?_
      refine code_region ?_
      refine op_v (v_assign rfl) rfl ?_
      refine ops_nil ?_
      refine post_next ?_
      refine code_ret ?_
      refine post_ret_then ?_
      refine post_ret (rs := [.tmp 2]) rfl (List.Perm.refl _) (.cons (.tmp rfl) .nil) (List.nil_sublist _) ?_
      exact ⟨by rw [if_pos (by simp [sortL, e1, e2])]; rfl, rfl⟩
    · first
        | (refine op_want rfl rfl ?_
           first | refine op_v (v_cmptA rfl rfl rfl) rfl ?_ | refine op_v (v_cmpfA rfl rfl rfl) rfl ?_ | refine op_v (v_cmp rfl rfl rfl) rfl ?_)
        | (refine op_skip rfl rfl (by simp [undef]) rfl ?_)
      first | refine op_v (v_pickt rfl rfl) rfl ?_ | refine op_v (v_pickf rfl rfl) rfl ?_ | refine op_v (v_pickb rfl rfl rfl) rfl ?_
      refine op_v (v_move rfl) rfl ?_
      first
        | (refine op_want rfl rfl ?_
           refine op_v (v_move rfl) rfl ?_)
        | (refine op_skip rfl rfl (by simp [undef]) rfl ?_)
      first
        | (refine op_want rfl rfl ?_
           refine op_v (v_not rfl) rfl ?_)
        | (refine op_skip rfl rfl (by simp [undef]) rfl ?_)
      first
        | (refine op_want rfl rfl ?_
           refine op_v (v_move rfl) rfl ?_)
        | (refine op_skip rfl rfl (by simp [undef]) rfl ?_)
      first
        | (refine op_want rfl rfl ?_
           refine op_v (v_load6 ty79 rfl rfl) rfl ?_)
        | (refine op_skip rfl rfl (by simp [undef]) rfl ?_)
      first
        | (refine op_want rfl rfl ?_
           first | refine op_v (v_fieldB 1 Try.underlying79 rfl rfl fz27 rfl) rfl ?_ | refine op_v (v_fieldI 1 Try.underlying79 rfl rfl fz27 rfl (by assumption)) rfl ?_ | refine op_v (v_field Try.underlying79 rfl fz27 rfl rfl) rfl ?_)
        | (refine op_skip rfl rfl (by simp [undef]) rfl ?_)
      first
        | (refine op_want rfl rfl ?_
           first | refine op_v (v_fieldB 3 Try.underlying27 rfl rfl fz25 rfl) rfl ?_ | refine op_v (v_fieldI 3 Try.underlying27 rfl rfl fz25 rfl (by assumption)) rfl ?_ | refine op_v (v_field Try.underlying27 rfl fz25 rfl rfl) rfl ?_)
        | (refine op_skip rfl rfl (by simp [undef]) rfl ?_)
      first
        | (refine op_want rfl rfl ?_
           refine op_v (v_loadA ty25 rfl rfl) rfl ?_)
        | (refine op_skip rfl rfl (by simp [undef]) rfl ?_)
      first
        | (refine op_want rfl rfl ?_
           refine op_call pl89 rfl rfl ((truth_does (cs := liC x la lc ra rc) (hg.mono Imm.leA) (hr.mono Imm.leA) ⟨_, _, _, _, _, rfl⟩ h2)) Parts.none ?_
           rintro _ I25 _ hI25 ⟨rfl, rfl⟩)
        | (refine op_skip rfl rfl (by simp [undef]) rfl ?_)
      first
        | (refine op_want rfl rfl ?_
           first | refine op_v (v_pickt rfl rfl) rfl ?_ | refine op_v (v_pickf rfl rfl) rfl ?_ | refine op_v (v_pickb rfl rfl rfl) rfl ?_)
        | (refine op_skip rfl rfl (by simp [undef]) rfl ?_)
      first | refine op_v (v_pickt rfl rfl) rfl ?_ | refine op_v (v_pickf rfl rfl) rfl ?_ | refine op_v (v_pickb rfl rfl rfl) rfl ?_
      refine ops_nil ?_
      refine post_next ?_
      refine code_cond_f rfl ?_
      refine code_skip ?_
      refine post_next ?_
      refine code_seq ?_
      refine code_region ?_
      refine op_v (v_assign rfl) rfl ?_
      refine ops_nil ?_
      refine post_next ?_
      refine code_ret ?_
      refine post_ret (rs := [.tmp 2]) rfl (List.Perm.refl _) (.cons (.tmp rfl) .nil) (List.nil_sublist _) ?_
      exact ⟨by rw [if_neg (by simp [sortL, e1]; omega)]; rfl, rfl⟩
  · have e1' : trL gs x.l = false := by simpa using e1
    rw [e1']
    refine op_v (v_move rfl) rfl ?_
    refine op_v (v_move rfl) rfl ?_
    first
      | (refine op_want rfl rfl ?_
         first | refine op_v (v_fieldB 1 Try.underlying79 rfl rfl fz27 rfl) rfl ?_ | refine op_v (v_fieldI 1 Try.underlying79 rfl rfl fz27 rfl (by assumption)) rfl ?_ | refine op_v (v_field Try.underlying79 rfl fz27 rfl rfl) rfl ?_)
      | (refine op_skip rfl rfl (by simp [undef]) rfl ?_)
    first
      | (refine op_want rfl rfl ?_
         first | refine op_v (v_fieldB 3 Try.underlying27 rfl rfl fz25 rfl) rfl ?_ | refine op_v (v_fieldI 3 Try.underlying27 rfl rfl fz25 rfl (by assumption)) rfl ?_ | refine op_v (v_field Try.underlying27 rfl fz25 rfl rfl) rfl ?_)
      | (refine op_skip rfl rfl (by simp [undef]) rfl ?_)
    first
      | (refine op_want rfl rfl ?_
         first | refine op_v (v_fieldB 0 Try.underlying25 rfl rfl fz3 rfl) rfl ?_ | refine op_v (v_fieldI 0 Try.underlying25 rfl rfl fz3 rfl (by assumption)) rfl ?_ | refine op_v (v_field Try.underlying25 rfl fz3 rfl rfl) rfl ?_)
      | (refine op_skip rfl rfl (by simp [undef]) rfl ?_)
    first
      | (refine op_want rfl rfl ?_
         refine op_v (v_loadA ty3 rfl rfl) rfl ?_)
      | (refine op_skip rfl rfl (by simp [undef]) rfl ?_)
    first
      | (refine op_want rfl rfl ?_
         first | refine op_v (v_cmptA rfl rfl rfl) rfl ?_ | refine op_v (v_cmpfA rfl rfl rfl) rfl ?_ | refine op_v (v_cmp rfl rfl rfl) rfl ?_)
      | (refine op_skip rfl rfl (by simp [undef]) rfl ?_)
    first | refine op_v (v_pickt rfl rfl) rfl ?_ | refine op_v (v_pickf rfl rfl) rfl ?_ | refine op_v (v_pickb rfl rfl rfl) rfl ?_
    refine op_v (v_move rfl) rfl ?_
    first
      | (refine op_want rfl rfl ?_
         refine op_v (v_move rfl) rfl ?_)
      | (refine op_skip rfl rfl (by simp [undef]) rfl ?_)
    first
      | (refine op_want rfl rfl ?_
         refine op_v (v_not rfl) rfl ?_)
      | (refine op_skip rfl rfl (by simp [undef]) rfl ?_)
    first
      | (refine op_want rfl rfl ?_
         refine op_v (v_move rfl) rfl ?_)
      | (refine op_skip rfl rfl (by simp [undef]) rfl ?_)
    first
      | (refine op_want rfl rfl ?_
         refine op_v (v_load6 ty79 rfl rfl) rfl ?_)
      | (refine op_skip rfl rfl (by simp [undef]) rfl ?_)
    first
      | (refine op_want rfl rfl ?_
         first | refine op_v (v_fieldB 1 Try.underlying79 rfl rfl fz27 rfl) rfl ?_ | refine op_v (v_fieldI 1 Try.underlying79 rfl rfl fz27 rfl (by assumption)) rfl ?_ | refine op_v (v_field Try.underlying79 rfl fz27 rfl rfl) rfl ?_)
      | (refine op_skip rfl rfl (by simp [undef]) rfl ?_)
    first
      | (refine op_want rfl rfl ?_
         first | refine op_v (v_fieldB 3 Try.underlying27 rfl rfl fz25 rfl) rfl ?_ | refine op_v (v_fieldI 3 Try.underlying27 rfl rfl fz25 rfl (by assumption)) rfl ?_ | refine op_v (v_field Try.underlying27 rfl fz25 rfl rfl) rfl ?_)
      | (refine op_skip rfl rfl (by simp [undef]) rfl ?_)
    first
      | (refine op_want rfl rfl ?_
         refine op_v (v_loadA ty25 rfl rfl) rfl ?_)
      | (refine op_skip rfl rfl (by simp [undef]) rfl ?_)
    first
      | (refine op_want rfl rfl ?_
         refine op_call pl89 rfl rfl ((truth_does (cs := liC x la lc ra rc) (hg.mono Imm.leA) (hr.mono Imm.leA) ⟨_, _, _, _, _, rfl⟩ h2)) Parts.none ?_
         rintro _ I25 _ hI25 ⟨rfl, rfl⟩)
      | (refine op_skip rfl rfl (by simp [undef]) rfl ?_)
    by_cases e3 : trL gs x.r = true
    · rw [e3]
      first
        | (refine op_want rfl rfl ?_
           first | refine op_v (v_pickt rfl rfl) rfl ?_ | refine op_v (v_pickf rfl rfl) rfl ?_ | refine op_v (v_pickb rfl rfl rfl) rfl ?_)
        | (refine op_skip rfl rfl (by simp [undef]) rfl ?_)
      first | refine op_v (v_pickt rfl rfl) rfl ?_ | refine op_v (v_pickf rfl rfl) rfl ?_ | refine op_v (v_pickb rfl rfl rfl) rfl ?_
      refine ops_nil ?_
      refine post_next ?_
      refine code_cond_t rfl ?_
      refine code_seq ?_
      refine code_region ?_
      refine op_v (v_assign rfl) rfl ?_
      refine ops_nil ?_
      refine post_next ?_
      refine code_ret ?_
      refine post_ret_then ?_
      refine post_ret (rs := [.tmp 2]) rfl (List.Perm.refl _) (.cons (.tmp rfl) .nil) (List.nil_sublist _) ?_
      exact ⟨by rw [if_pos (by simp [sortL, e1', e3])]; rfl, rfl⟩
    · have e3' : trL gs x.r = false := by simpa using e3
      rw [e3']
      first
        | (refine op_want rfl rfl ?_
           first | refine op_v (v_pickt rfl rfl) rfl ?_ | refine op_v (v_pickf rfl rfl) rfl ?_ | refine op_v (v_pickb rfl rfl rfl) rfl ?_)
        | (refine op_skip rfl rfl (by simp [undef]) rfl ?_)
      first | refine op_v (v_pickt rfl rfl) rfl ?_ | refine op_v (v_pickf rfl rfl) rfl ?_ | refine op_v (v_pickb rfl rfl rfl) rfl ?_
      refine ops_nil ?_
      refine post_next ?_
      refine code_cond_f rfl ?_
      refine code_skip ?_
      refine post_next ?_
      refine code_seq ?_
      refine code_region ?_
      refine op_v (v_assign rfl) rfl ?_
      refine ops_nil ?_
      refine post_next ?_
      refine code_ret ?_
      refine post_ret (rs := [.tmp 2]) rfl (List.Perm.refl _) (.cons (.tmp rfl) .nil) (List.nil_sublist _) ?_
      exact ⟨by rw [if_neg (by simp [sortL, e1', e3'])]; rfl, rfl⟩
theorem first_does {I : Imm} {A : Option Addr} {vg : Value} {x : Li} {la ra : Option Addr} {lc rc : Nat} {fs : List Value} {es : List Int} (hcells : Cells I A fs) (hlen : fs.length = es.length) (hl3 : fs.length ≤ 1000) (hg1 : vg.oneCell' = true)
    (hf : ∀ J i (h : i < fs.length), I.le J → (∀ j (hj : j < es.length), j < i → es[j] = 0) → FDoes Try.prog fs[i] [.agg #[vg, .bool x.neg, .int .i64 x.l.head, .slice la x.l.args.length lc, .int .i64 x.r.head, .slice ra x.r.args.length rc]] J [] (fun v _ δ' => v = .int .i64 (es[i]'(by omega)) ∧ δ' = [])) :
    Does Try.prog 53 [.agg #[vg, .bool x.neg, .int .i64 x.l.head, .slice la x.l.args.length lc, .int .i64 x.r.head, .slice ra x.r.args.length rc], .slice A fs.length fs.length] I [] (fun v _ δ' => v = .int .i64 (orI es) ∧ δ' = []) := by
  have hat : ∀ i (h : i < fs.length), At I A (i * 1) [fs[i]] := fun i h => hcells.at _ fun j u hj => by
    rcases j with _ | j
    · simp at hj; subst hj; simp [h]
    · simp at hj
  refine Does.intro Try.func53 rfl Try.ntmps53 rfl fun w0 => ?_
  refine code_seq ?_
  refine code_region ?_
  refine o_box rfl rfl rfl (fun b2 => ?_)
  refine op_v (v_assign rfl) rfl ?_
  refine ops_nil ?_
  refine post_next ?_
  refine code_seq ?_
  refine code_seq ?_
  refine code_region ?_
  refine op_v (v_move rfl) rfl ?_
  refine op_v (v_len Try.underlying113 rfl) rfl ?_
  refine op_v (v_move rfl) rfl ?_
  refine ops_nil ?_
  refine post_next ?_
  refine code_block ?_
  refine code_loop (fun m σ' I' δ' => ∃ k : Nat, m = fs.length - k ∧ k ≤ fs.length ∧ σ' = [(2, .pointer (some ⟨b2, 0, none⟩)), (8, .slice A fs.length fs.length), (9, .int .i64 fs.length), (10, .int .i64 k)] ∧ I.le I' ∧ δ' = [.box b2 79 [vg, .bool x.neg, .int .i64 x.l.head, .slice la x.l.args.length lc, .int .i64 x.r.head, .slice ra x.r.args.length rc]] ∧ orI es = orI (es.drop k) ∧ ∀ j (hj : j < es.length), j < k → es[j] = 0) fs.length [(2, .pointer (some ⟨b2, 0, none⟩)), (8, .slice A fs.length fs.length), (9, .int .i64 fs.length), (10, .int .i64 (0 : Nat))] ⟨0, rfl, Nat.zero_le _, rfl, Imm.le_refl _, rfl, rfl, fun j _ h => by omega⟩ ⟨rfl, rfl, rfl, rfl, trivial⟩ ?_
  rintro m _ I0 _ ⟨k, rfl, hk, rfl, hI0, rfl, hp, hz⟩
  refine code_seq ?_
  refine code_region ?_
  first | refine op_v (v_cmptA rfl rfl rfl) rfl ?_ | refine op_v (v_cmpfA rfl rfl rfl) rfl ?_ | refine op_v (v_cmp rfl rfl rfl) rfl ?_
  refine ops_nil ?_
  refine post_next ?_
  refine code_seq ?_
  refine code_cond rfl (fun hc0 => ?_) (fun hc0 => ?_)
  · have hlt : k < fs.length := by simpa using hc0
    have hlt2 : k < es.length := by omega
    have hs1 := (hat k hlt).isSome
    rw [List.drop_eq_getElem_cons hlt2] at hp
    refine code_skip ?_
    refine post_next ?_
    refine code_seq ?_
    refine code_block ?_
    refine code_seq ?_
    refine code_region ?_
    first | refine op_v (v_indexA Try.underlying113 sz80 rfl rfl) rfl ?_ | refine op_v (v_indexIA Try.underlying113 sz80 rfl rfl) rfl ?_
    first | refine op_v (v_loadI0 ty80 ((hat k hlt).mono hI0) rfl rfl rfl) rfl ?_ | refine op_v (v_loadI ty80 ((hat k hlt).mono hI0) rfl rfl rfl) rfl ?_
    refine op_v (v_assign rfl) rfl ?_
    refine ops_nil ?_
    refine post_next ?_
    refine code_seq ?_
    refine code_region ?_
    refine op_v (v_move rfl) rfl ?_
    refine op_v (v_load6 ty79 rfl rfl) rfl ?_
    refine op_fcall rfl rfl rfl ((hf _ k hlt Imm.leA hz)) Parts.none ?_
    rintro _ I16 _ hI16 ⟨rfl, rfl⟩
    refine op_v (v_assign rfl) rfl ?_
    refine ops_nil ?_
    refine post_next ?_
    refine code_seq ?_
    refine code_region ?_
    refine op_v (v_move rfl) rfl ?_
    first | refine op_v (v_cmptA rfl rfl rfl) rfl ?_ | refine op_v (v_cmpfA rfl rfl rfl) rfl ?_ | refine op_v (v_cmp rfl rfl rfl) rfl ?_
    refine ops_nil ?_
    refine post_next ?_
    refine code_cond rfl (fun hc1 => ?_) (fun hc1 => ?_)
    · have hne : es[k] ≠ 0 := by simpa using hc1
      refine code_seq ?_
      refine code_region ?_
      refine op_v (v_move rfl) rfl ?_
      refine op_v (v_assign rfl) rfl ?_
      refine ops_nil ?_
      refine post_next ?_
      refine code_ret ?_
      refine post_ret_block ?_
      refine post_ret_then ?_
      refine post_ret_then ?_
      refine post_ret_block ?_
      refine post_ret_then ?_
      refine post_ret (rs := [.tmp 4]) rfl (List.Perm.refl _) (.cons (.tmp rfl) .nil) (List.nil_sublist _) ?_
      exact ⟨by rw [hp]; simp [outV, orI, hne], rfl⟩
    · have heq : es[k] = 0 := by simpa using hc1
      refine code_skip ?_
      refine post_out ?_
      refine post_next ?_
      refine code_region ?_
      first | refine op_v (v_addb rfl rfl rfl (by omega)) rfl ?_ | refine op_v (v_add rfl rfl) rfl ?_
      refine op_v (v_move rfl) rfl ?_
      refine ops_nil ?_
      refine post_again (fs.length - (k + 1)) [(2, .pointer (some ⟨b2, 0, none⟩)), (8, .slice A fs.length fs.length), (9, .int .i64 fs.length), (10, .int .i64 (k + 1 : Nat))] (by omega) ⟨k + 1, rfl, hlt, rfl, Imm.leA, rfl, by rw [hp]; simp [orI, heq], fun j hj hjk => ?_⟩ ⟨rfl, rfl, rfl, rfl, trivial⟩
      rcases Nat.lt_or_ge j k with hq | hq
      · exact hz j hj hq
      have hq2 : j = k := by omega
      subst hq2
      exact heq
  · have hge : k = es.length := by simp at hc0; omega
    rw [hge, List.drop_length] at hp
    refine code_exit ?_
    refine post_exit_then ?_
    refine post_exit_then ?_
    refine post_exit ?_
    refine post_next ?_
    refine code_seq ?_
    refine code_region ?_
    refine op_v (v_assign rfl) rfl ?_
    refine ops_nil ?_
    refine post_next ?_
    refine code_ret ?_
    refine post_ret (rs := [.tmp 4]) rfl (List.Perm.refl _) (.cons (.tmp rfl) .nil) (List.nil_sublist _) ?_
    exact ⟨by rw [hp]; simp [outV, orI], rfl⟩

theorem LCheck_does {I : Imm} {vg va : Value} {gs : List Sy} {x : Li} (hg : RepG I vg gs) (ha : RepL I va x) (h1 : x.l.size ≤ 1000000000) (h2 : x.r.size ≤ 1000000000) :
    Does Try.prog 18 [vg, va] I [] (fun v _ δ' => v = .int .i64 (litG gs x) ∧ δ' = []) := by
  obtain ⟨la, lc, ra, rc, rfl, hl, hr⟩ := ha
  obtain ⟨ga, gc, rfl⟩ := hg.shape
  have hor : orI [termG gs x.l, termG gs x.r, if sortL gs x = true then 10 else 0] = litG gs x := by
    unfold litG; simp only [orI]
    split <;> (try rfl)
    split <;> (try rfl)
    split <;> rfl
  refine Does.intro Try.func18 rfl Try.ntmps18 rfl fun w0 => ?_
  refine code_seq ?_
  refine code_region ?_
  refine o_box rfl rfl rfl (fun b3 => ?_)
  refine op_v (v_assign rfl) rfl ?_
  refine ops_nil ?_
  refine post_next ?_
  refine code_seq ?_
  refine code_region ?_
  refine op_v (v_move rfl) rfl ?_
  refine op_v (v_loadA ty27 rfl rfl) rfl ?_
  refine op_v (v_build (cs := [.slice ga gs.length gc, .bool x.neg, .int .i64 x.l.head, .slice la x.l.args.length lc, .int .i64 x.r.head, .slice ra x.r.args.length rc]) bl79 rfl rfl) rfl ?_
  refine o_buildSlice (xs := [(Go.Operand.func 54), (Go.Operand.func 55), (Go.Operand.func 56)]) Try.underlying113 bs80 rfl rfl rfl rfl rfl (fun b8 => ?_)
  refine OpsJ.freezeRow Del.here ?_
  rintro I8 a8 c8 hI8 hq hc8 hl8 hcells8
  cases hq
  have hc3 : Cells I8 _ [.func (.func 54) #[] #[], .func (.func 55) #[] #[], .func (.func 56) #[] #[]] := hcells8
  have hF0 : ∀ J, I8.le J → FDoes Try.prog (.func (.func 54) #[] #[]) [.agg #[.slice ga gs.length gc, .bool x.neg, .int .i64 x.l.head, .slice la x.l.args.length lc, .int .i64 x.r.head, .slice ra x.r.args.length rc]] J [] (fun v _ δ' => v = .int .i64 (termG gs x.l) ∧ δ' = []) := fun J hJ => FDoes.ofFunc (caps := []) (show Plainf Try.prog 54 = true by kernel_rfl) (left_does (x := x) (hg.mono Imm.leA) (hl.mono Imm.leA) h1)
  have hF1 : ∀ J, I8.le J → FDoes Try.prog (.func (.func 55) #[] #[]) [.agg #[.slice ga gs.length gc, .bool x.neg, .int .i64 x.l.head, .slice la x.l.args.length lc, .int .i64 x.r.head, .slice ra x.r.args.length rc]] J [] (fun v _ δ' => v = .int .i64 (termG gs x.r) ∧ δ' = []) := fun J hJ => FDoes.ofFunc (caps := []) (show Plainf Try.prog 55 = true by kernel_rfl) (right_does (x := x) (hg.mono Imm.leA) (hr.mono Imm.leA) h2)
  have hF2 : ∀ J, I8.le J → OkG gs x.l → OkG gs x.r → FDoes Try.prog (.func (.func 56) #[] #[]) [.agg #[.slice ga gs.length gc, .bool x.neg, .int .i64 x.l.head, .slice la x.l.args.length lc, .int .i64 x.r.head, .slice ra x.r.args.length rc]] J [] (fun v _ δ' => v = .int .i64 (if sortL gs x = true then 10 else 0) ∧ δ' = []) := fun J hJ z1 z2 => by
    have q1 := z1.heads (true, x.l) (by rw [visT_eq]; exact List.mem_cons_self ..)
    have q2 := z2.heads (true, x.r) (by rw [visT_eq]; exact List.mem_cons_self ..)
    simp only at q1 q2
    exact FDoes.ofFunc (caps := []) (show Plainf Try.prog 56 = true by kernel_rfl) (sorts_does (x := x) (hg.mono Imm.leA) (hl.mono Imm.leA) (hr.mono Imm.leA) (by omega) (by omega))
  have hF : ∀ J i (h : i < [Value.func (.func 54) #[] #[], Value.func (.func 55) #[] #[], Value.func (.func 56) #[] #[]].length), I8.le J → (∀ j (hj : j < [termG gs x.l, termG gs x.r, if sortL gs x = true then 10 else 0].length), j < i → [termG gs x.l, termG gs x.r, if sortL gs x = true then 10 else 0][j] = 0) → FDoes Try.prog [Value.func (.func 54) #[] #[], Value.func (.func 55) #[] #[], Value.func (.func 56) #[] #[]][i] [.agg #[.slice ga gs.length gc, .bool x.neg, .int .i64 x.l.head, .slice la x.l.args.length lc, .int .i64 x.r.head, .slice ra x.r.args.length rc]] J [] (fun v _ δ' => v = .int .i64 ([termG gs x.l, termG gs x.r, if sortL gs x = true then 10 else 0][i]'(by simpa using h)) ∧ δ' = []) := fun J i hi hJ hz => by
    rcases i with _ | _ | _ | i
    · exact hF0 J hJ
    · exact hF1 J hJ
    · exact hF2 J hJ (termG_ok.1 (hz 0 (by simp) (by omega))) (termG_ok.1 (hz 1 (by simp) (by omega)))
    · simp at hi; omega
  have hfd := first_does (A := some ⟨b8, 0, none⟩) (x := x) (vg := .slice ga gs.length gc) (la := la) (ra := ra) (lc := lc) (rc := rc) (es := [termG gs x.l, termG gs x.r, if sortL gs x = true then 10 else 0]) hc3 (by simp) (by simp) rfl hF
  rw [hor] at hfd
  refine op_call pl53 rfl rfl (hfd) Parts.none ?_
  rintro _ I9 _ hI9 ⟨rfl, rfl⟩
  refine op_v (v_assign rfl) rfl ?_
  refine ops_nil ?_
  refine post_next ?_
  refine code_ret ?_
  refine post_ret (rs := [.tmp 4]) rfl (List.Perm.refl _) (.cons (.tmp rfl) .nil) (List.nil_sublist _) ?_
  exact ⟨rfl, rfl⟩
end Go.Proofs.Ytegceppoioeeaaa
