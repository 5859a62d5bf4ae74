/- Own texts, one behind the other: rules of a small program logic, walks through the program's functions, plain facts. No condition. -/
import Derived.Test.YthbcdffldcdfoaaZ2
/- Walks: a store's entries; those of which something is so. -/
set_option linter.unusedVariables false
set_option linter.unusedSimpArgs false
set_option linter.unnecessarySimpa false
/- short -/
namespace Go.Proofs.Ythbcdffldcdfoaa
open Go Lg

structure En where
  cl : List Li
  rule : Int
  from_ : List Int
  st : Int
  why : Int
def EntE : Elt 5 En where
  R := fun I x vs => ∃ (ca : Option Addr) (cc : Nat) (fa : Option Addr) (fc : Nat), vs = [.slice ca x.cl.length cc, .int .i64 x.rule, .slice fa x.from_.length fc, .int .i64 x.st, .int .i64 x.why] ∧ RepC I (.slice ca x.cl.length cc) x.cl ∧ RInts I (.slice fa x.from_.length fc) x.from_
  len := by rintro I a vs ⟨ca, cc, fa, fc, rfl, _, _⟩; rfl
  one := by
    rintro I a vs ⟨ca, cc, fa, fc, rfl, _, _⟩ u hu
    simp only [List.mem_cons, List.not_mem_nil, or_false] at hu
    rcases hu with rfl | rfl | rfl | rfl | rfl <;> rfl
  mono := by rintro I J a vs hl ⟨ca, cc, fa, fc, rfl, h1, h2⟩; exact ⟨ca, cc, fa, fc, rfl, h1.mono hl, h2.mono hl⟩
theorem RepE.shape {n : Nat} {α : Type} {E : Elt n α} {I : Imm} {v : Value} {al : List α} (h : RepE E I v al) : ∃ ad c, v = .slice ad al.length c := by obtain ⟨ad, c, _, h, _⟩ := h; exact ⟨ad, c, h⟩
abbrev SE (sb : Nat) (A : Option Addr) (c n : Nat) (xs : List Value) : List Ent := [.box sb 79 [.slice A n c], .row (.slice A n c) 39 5 n xs]
def idsT (p : En → Bool) (es : List En) (k : Nat) : List Int := ((List.range k).filter fun i => match es[i]? with | some e => p e | none => false).map fun i : Nat => (i : Int)
theorem idsT_succ {p : En → Bool} {es : List En} {k : Nat} (h : k < es.length) : idsT p es (k + 1) = if p es[k] = true then idsT p es k ++ [(k : Int)] else idsT p es k := by
  unfold idsT
  rw [List.range_succ, List.filter_append, List.map_append]
  have e : es[k]? = some es[k] := List.getElem?_eq_getElem h
  by_cases q : p es[k] = true
  · rw [if_pos q]; simp [List.filter_cons, e, q]
  · rw [if_neg q]; simp [List.filter_cons, e, q]
theorem idsT_mem {p : En → Bool} {es : List En} {k : Nat} {i : Int} (hk : k ≤ es.length) : i ∈ idsT p es k ↔ ∃ (j : Nat) (h : j < es.length), i = j ∧ j < k ∧ p es[j] = true := by
  unfold idsT
  simp only [List.mem_map, List.mem_filter, List.mem_range]
  constructor
  · rintro ⟨j, ⟨hj, hp⟩, rfl⟩
    have hl : j < es.length := by omega
    rw [List.getElem?_eq_getElem hl] at hp
    exact ⟨j, hl, rfl, hj, hp⟩
  · rintro ⟨j, hl, rfl, hj, hp⟩
    exact ⟨j, ⟨hj, by rw [List.getElem?_eq_getElem hl]; exact hp⟩, rfl⟩
theorem idsT_len {p : En → Bool} {es : List En} (k : Nat) : (idsT p es k).length ≤ k := by
  unfold idsT
  rw [List.length_map]
  exact Nat.le_trans (List.length_filter_le _ _) (by simp)
theorem idsT_in {p : En → Bool} {es : List En} {k : Nat} (hk : k ≤ es.length) (hb : k ≤ 1000000) : ∀ x ∈ idsT p es k, InR x := by
  intro x hx
  obtain ⟨j, _, rfl, hj, _⟩ := (idsT_mem hk).1 hx
  unfold InR; omega
theorem tof_does {I : Imm} {sb c : Nat} {A : Option Addr} {xs : List Value} {es : List En} {fv : Value} {δf : List Ent} {p : En → Bool} (hrow : RowE EntE I xs es) (hes : es.length ≤ 5000)
    (hf : ∀ J e u, I.le J → EntE.R J e u → FDoes Try.prog fv [.agg u.toArray] J δf (fun v _ δ' => v = .bool (p e) ∧ δ' = δf)) :
    Does Try.prog 48 [.agg #[fv], .pointer (some ⟨sb, 0, none⟩)] I (SE sb A c es.length xs ++ δf) (fun v I' δ' => RInts I' v (idsT p es es.length) ∧ δ' = SE sb A c es.length xs ++ δf) := by
  refine Does.intro Try.func48 rfl Try.ntmps48 rfl fun w0 => ?_
  refine code_seq ?_
  refine code_region ?_
  refine o_box rfl rfl rfl (fun b2 => ?_)
  refine op_v (v_assign rfl) rfl ?_
  refine ops_nil ?_
  refine post_next ?_
  refine code_seq ?_
  refine code_seq ?_
  refine code_region ?_
  refine op_v (v_move rfl) rfl ?_
  refine op_v (v_ptrq (z := false) Try.underlying24 rfl rfl rfl) rfl ?_
  refine ops_nil ?_
  refine post_next ?_
  refine code_cond_f rfl ?_
  refine code_skip ?_
  refine post_next ?_
  refine code_seq ?_
  refine code_region ?_
  refine op_v (v_assign rfl) rfl ?_
  refine ops_nil ?_
  refine post_next ?_
  refine code_seq ?_
  refine code_seq ?_
  refine code_region ?_
  refine op_v (v_move rfl) rfl ?_
  refine op_v (v_nilCheck rfl) rfl ?_
  first | refine op_v (v_fieldB 0 Try.underlying79 rfl rfl fz77 rfl) rfl ?_ | refine op_v (v_fieldI 0 Try.underlying79 rfl rfl fz77 rfl (by assumption)) rfl ?_ | refine op_v (v_field Try.underlying79 rfl fz77 rfl rfl) rfl ?_
  refine op_v (v_loadA ty77 rfl rfl) rfl ?_
  refine op_v (v_len Try.underlying77 rfl) rfl ?_
  refine op_v (v_move rfl) rfl ?_
  refine ops_nil ?_
  refine post_next ?_
  refine code_block ?_
  refine CodeJ.view (View.nilRow 3 1) ?_
  refine code_loop (fun m σ' I' δ' => ∃ (k : Nat) (Ao : Option Addr) (co : Nat), m = es.length - k ∧ k ≤ es.length ∧ σ' = [(2, .pointer (some ⟨b2, 0, none⟩)), (5, .slice Ao (idsT p es k).length co), (13, .slice A es.length c), (14, .int .i64 es.length), (15, .int .i64 k)] ∧ I.le I' ∧ δ' = iRow Ao co (idsT p es k) :: .box b2 89 [fv] :: (SE sb A c es.length xs ++ δf)) es.length [(2, .pointer (some ⟨b2, 0, none⟩)), (5, .slice none 0 0), (13, .slice A es.length c), (14, .int .i64 es.length), (15, .int .i64 (0 : Nat))] ⟨0, none, 0, rfl, Nat.zero_le _, rfl, Imm.le_refl _, rfl⟩ ⟨rfl, rfl, rfl, rfl, rfl, trivial⟩ ?_
  rintro m _ I0 _ ⟨k, Ao, co, rfl, hk, rfl, hI0, rfl⟩
  have hil := idsT_len (p := p) (es := es) k
  refine code_seq ?_
  refine code_region ?_
  first | refine op_v (v_cmptA rfl rfl rfl) rfl ?_ | refine op_v (v_cmpfA rfl rfl rfl) rfl ?_ | refine op_v (v_cmp rfl rfl rfl) rfl ?_
  refine ops_nil ?_
  refine post_next ?_
  refine code_seq ?_
  refine code_cond rfl (fun hc1 => ?_) (fun hc1 => ?_)
  · have hlt : k < es.length := by simpa using hc1
    obtain ⟨vs, ⟨ca, cc, fa, fc, rfl, hR1, hR2⟩, _, r, hdrop⟩ := hrow.at hlt
    refine code_skip ?_
    refine post_next ?_
    refine code_seq ?_
    refine code_block ?_
    refine code_seq ?_
    refine code_region ?_
    refine op_v (v_move rfl) rfl ?_
    refine OpsJ.rowSome (Has.there (Has.there (Has.there Has.here))) (by omega) (fun hA hcr => ?_)
    first | refine op_v (v_indexA Try.underlying77 sz39 rfl rfl) rfl ?_ | refine op_v (v_indexIA Try.underlying77 sz39 rfl rfl) rfl ?_
    refine op_v (v_loadRow (v := .agg #[.slice ca es[k].cl.length cc, .int .i64 es[k].rule, .slice fa es[k].from_.length fc, .int .i64 es[k].st, .int .i64 es[k].why]) ty39 rfl (Has.there (Has.there (Has.there Has.here))) hA (by rw [hdrop]; rfl)) rfl ?_
    refine o_alloc z39 rfl rfl (fun b7 => ?_)
    refine op_v (v_assign rfl) rfl ?_
    refine o_store ty39 rfl rfl rfl rfl rfl (by repeat (first | exact Swap.here | apply Swap.there)) rfl ?_
    refine ops_nil ?_
    refine post_next ?_
    refine code_seq ?_
    refine code_region ?_
    first | refine op_v (v_fieldB 0 Try.underlying89 rfl rfl fz87 rfl) rfl ?_ | refine op_v (v_fieldI 0 Try.underlying89 rfl rfl fz87 rfl (by assumption)) rfl ?_ | refine op_v (v_field Try.underlying89 rfl fz87 rfl rfl) rfl ?_
    refine op_v (v_loadA ty87 rfl rfl) rfl ?_
    refine op_v (v_loadA ty39 rfl rfl) rfl ?_
    refine op_fcall rfl rfl rfl ((hf _ es[k] [.slice ca es[k].cl.length cc, .int .i64 es[k].rule, .slice fa es[k].from_.length fc, .int .i64 es[k].st, .int .i64 es[k].why] hI0 ⟨ca, cc, fa, fc, rfl, hR1.mono hI0, hR2.mono hI0⟩)) (List.perm_append_comm (l₁ := [_, _, _, _, _])) ?_
    rintro v23 I23 _ hI23 ⟨rfl, rfl⟩
    refine OpsJ.view (View.perm (List.perm_append_comm (l₂ := [_, _, _, _, _]))) ?_
    have hsc := idsT_succ (p := p) hlt
    refine ops_nil ?_
    refine post_next ?_
    refine code_cond rfl (fun hc2 => ?_) (fun hc2 => ?_)
    · refine code_region ?_
      refine op_v (v_move rfl) rfl ?_
      refine op_v (v_move rfl) rfl ?_
      refine o_buildSlice (xs := [(Go.Operand.tmp 25)]) Try.underlying28 bs3 rfl rfl rfl rfl rfl (fun b26 => ?_)
      refine o_append Try.underlying28 bs3 rfl rfl rfl (fun v' => by repeat (first | exact Swap.here | apply Swap.there)) (Src.ofRow (by repeat (first | exact Has.here | apply Has.there)) rfl) (by first | rfl | omega | simp) (by simp [cat, cellsL, Value.oneCell']) (by omega) (by omega) (fun a27 c27 => ?_)
      refine op_v (v_assign rfl) rfl ?_
      refine ops_nil ?_
      refine post_out ?_
      refine post_next ?_
      refine code_region ?_
      first | refine op_v (v_addb rfl rfl rfl (by omega)) rfl ?_ | refine op_v (v_add rfl rfl) rfl ?_
      refine op_v (v_move rfl) rfl ?_
      refine ops_nil ?_
      rw [if_pos hc2] at hsc
      refine PostJ.view (View.drop Del.here) ?_
      refine PostJ.view (View.drop Del.here) ?_
      refine post_again (es.length - (k + 1)) [(2, .pointer (some ⟨b2, 0, none⟩)), (5, .slice a27 ((idsT p es k).length + 1) c27), (13, .slice A es.length c), (14, .int .i64 es.length), (15, .int .i64 (k + 1 : Nat))] (by omega) ⟨k + 1, a27, c27, rfl, hlt, by rw [hsc]; simp, Imm.leA, by rw [hsc]; simp [iRow, cat, cellsL]⟩ ⟨rfl, rfl, rfl, rfl, rfl, trivial⟩
    · refine code_skip ?_
      refine post_out ?_
      refine post_next ?_
      refine code_region ?_
      first | refine op_v (v_addb rfl rfl rfl (by omega)) rfl ?_ | refine op_v (v_add rfl rfl) rfl ?_
      refine op_v (v_move rfl) rfl ?_
      refine ops_nil ?_
      rw [if_neg (by rw [hc2]; simp)] at hsc
      refine PostJ.view (View.drop Del.here) ?_
      refine post_again (es.length - (k + 1)) [(2, .pointer (some ⟨b2, 0, none⟩)), (5, .slice Ao (idsT p es k).length co), (13, .slice A es.length c), (14, .int .i64 es.length), (15, .int .i64 (k + 1 : Nat))] (by omega) ⟨k + 1, Ao, co, rfl, hlt, by rw [hsc], Imm.leA, by rw [hsc]; rfl⟩ ⟨rfl, rfl, rfl, rfl, rfl, trivial⟩
  · have hge : k = es.length := by simp at hc1; omega
    subst hge
    refine code_exit ?_
    refine post_exit_then ?_
    refine post_exit_then ?_
    refine post_exit ?_
    refine post_next ?_
    refine code_seq ?_
    refine code_region ?_
    refine OpsJ.freezeRow Del.here ?_
    rintro I29 a29 c29 hI29 hq hc29 hl29 hcells29
    cases hq
    refine op_v (v_move rfl) rfl ?_
    refine op_v (v_assign rfl) rfl ?_
    refine ops_nil ?_
    refine post_next ?_
    refine code_ret ?_
    refine post_ret (rs := [.tmp 4]) rfl (List.Perm.refl _) (.cons (.tmp rfl) .nil) (List.Sublist.cons _ (List.Sublist.refl _)) ?_
    exact ⟨RInts.of rfl hc29 (by omega) hcells29 (idsT_in (Nat.le_refl _) (by omega)), rfl⟩
def isSt (st : Int) (e : En) : Bool := decide (e.st = st)
def isLv (e : En) : Bool := decide (e.st ≤ 2)
def hasCh (id : Int) (e : En) : Bool := decide (id ∈ e.from_)
theorem In1_does {I : Imm} {b : Nat} {st : Int} {e : En} {u : List Value} (hu : EntE.R I e u) :
    Does Try.prog 47 [.agg u.toArray, .pointer (some ⟨b, 0, none⟩)] I [.box b 3 [.int .i64 st]] (fun v _ δ' => v = .bool (isSt st e) ∧ δ' = [.box b 3 [.int .i64 st]]) := by
  obtain ⟨ca, cc, fa, fc, rfl, h1, h2⟩ := hu
  refine Does.intro Try.func47 rfl Try.ntmps47 rfl fun w0 => ?_
  refine code_seq ?_
  refine code_region ?_
  refine o_box rfl rfl rfl (fun b2 => ?_)
  refine op_v (v_assign rfl) rfl ?_
  refine ops_nil ?_
  refine post_next ?_
  refine code_seq ?_
  refine code_region ?_
  first | refine op_v (v_fieldB 3 Try.underlying39 rfl rfl fz3 rfl) rfl ?_ | refine op_v (v_fieldI 3 Try.underlying39 rfl rfl fz3 rfl (by assumption)) rfl ?_ | refine op_v (v_field Try.underlying39 rfl fz3 rfl rfl) rfl ?_
  refine op_v (v_loadA ty3 rfl rfl) rfl ?_
  refine op_v (v_loadA ty3 rfl rfl) rfl ?_
  refine op_v (v_cmp (z := isSt st e) rfl rfl rfl) rfl ?_
  refine op_v (v_assign rfl) rfl ?_
  refine ops_nil ?_
  refine post_next ?_
  refine code_ret ?_
  refine post_ret (rs := [.tmp 3]) rfl (List.Perm.refl _) (.cons (.tmp rfl) .nil) (List.sublist_cons_self _ _) ?_
  exact ⟨rfl, rfl⟩
theorem Live1_does {I : Imm} {e : En} {u : List Value} (hu : EntE.R I e u) :
    Does Try.prog 49 [.agg u.toArray] I [] (fun v _ δ' => v = .bool (isLv e) ∧ δ' = []) := by
  obtain ⟨ca, cc, fa, fc, rfl, h1, h2⟩ := hu
  refine Does.intro Try.func49 rfl Try.ntmps49 rfl fun w0 => ?_
  refine code_seq ?_
  refine code_region ?_
  refine o_box rfl rfl rfl (fun b1 => ?_)
  refine op_v (v_assign rfl) rfl ?_
  refine ops_nil ?_
  refine post_next ?_
  refine code_seq ?_
  refine code_region ?_
  first | refine op_v (v_fieldB 3 Try.underlying39 rfl rfl fz3 rfl) rfl ?_ | refine op_v (v_fieldI 3 Try.underlying39 rfl rfl fz3 rfl (by assumption)) rfl ?_ | refine op_v (v_field Try.underlying39 rfl fz3 rfl rfl) rfl ?_
  refine op_v (v_loadA ty3 rfl rfl) rfl ?_
  refine op_v (v_cmp (z := isLv e) rfl rfl rfl) rfl ?_
  refine op_v (v_assign rfl) rfl ?_
  refine ops_nil ?_
  refine post_next ?_
  refine code_ret ?_
  refine post_ret (rs := [.tmp 2]) rfl (List.Perm.refl _) (.cons (.tmp rfl) .nil) (List.nil_sublist _) ?_
  exact ⟨rfl, rfl⟩
theorem IndexIm_does {I : Imm} {v : Value} {xs : List Int} {x : Int} (hv : RInts I v xs) :
    Does Try.prog 61 [v, .int .i64 x] I [] (fun v _ δ' => (∃ n : Int, v = .int .i64 n ∧ (0 ≤ n ↔ x ∈ xs)) ∧ δ' = []) := by
  obtain ⟨ad, c, xs, hc, hb, hat, hr⟩ := hv
  refine Does.intro Try.func61 rfl Try.ntmps61 rfl fun w0 => ?_
  refine code_seq ?_
  refine code_region ?_
  refine op_v (v_assign rfl) rfl ?_
  refine ops_nil ?_
  refine post_next ?_
  refine code_seq ?_
  refine code_seq ?_
  refine code_region ?_
  refine op_v (v_move rfl) rfl ?_
  refine op_v (v_len Try.underlying28 rfl) rfl ?_
  refine op_v (v_move rfl) rfl ?_
  refine ops_nil ?_
  refine post_next ?_
  refine code_block ?_
  refine code_loop (fun m σ' I' δ' => ∃ k : Nat, m = xs.length - k ∧ σ' = [(0, .slice ad xs.length c), (1, .int .i64 x), (7, .int .i64 xs.length), (8, .int .i64 k)] ∧ I' = I ∧ δ' = ([] : List Ent) ∧ k ≤ xs.length ∧ x ∉ xs.take k) (xs.length - 0) [(0, .slice ad xs.length c), (1, .int .i64 x), (7, .int .i64 xs.length), (8, .int .i64 (0 : Nat))] ⟨0, rfl, rfl, rfl, rfl, ⟨Nat.zero_le _, by simp⟩⟩ ⟨rfl, rfl, rfl, rfl, trivial⟩ ?_
  rintro m _ _ _ ⟨k, rfl, rfl, rfl, rfl, hp⟩
  obtain ⟨hk, hp⟩ := hp
  refine code_seq ?_
  refine code_region ?_
  first | refine op_v (v_cmptA rfl rfl rfl) rfl ?_ | refine op_v (v_cmpfA rfl rfl rfl) rfl ?_ | refine op_v (v_cmp rfl rfl rfl) rfl ?_
  refine ops_nil ?_
  refine post_next ?_
  refine code_seq ?_
  refine code_cond rfl (fun hc0 => ?_) (fun hc0 => ?_)
  · have hlt : k < xs.length := by simpa using hc0
    have hs1 := ints_some hat k hlt
    refine code_skip ?_
    refine post_next ?_
    refine code_seq ?_
    refine code_block ?_
    refine code_seq ?_
    refine code_region ?_
    refine op_v (v_move rfl) rfl ?_
    refine op_v (v_assign rfl) rfl ?_
    refine ops_nil ?_
    refine post_next ?_
    refine code_seq ?_
    refine code_region ?_
    refine op_v (v_move rfl) rfl ?_
    refine op_v (v_move rfl) rfl ?_
    refine op_v (v_move rfl) rfl ?_
    first | refine op_v (v_indexA Try.underlying28 sz3 rfl rfl) rfl ?_ | refine op_v (v_indexIA Try.underlying28 sz3 rfl rfl) rfl ?_
    first | refine op_v (v_loadI0 ty3 ((ints_at hat k hlt)) rfl rfl rfl) rfl ?_ | refine op_v (v_loadI ty3 ((ints_at hat k hlt)) rfl rfl rfl) rfl ?_
    first | refine op_v (v_cmptA rfl rfl rfl) rfl ?_ | refine op_v (v_cmpfA rfl rfl rfl) rfl ?_ | refine op_v (v_cmp rfl rfl rfl) rfl ?_
    refine ops_nil ?_
    refine post_next ?_
    refine code_cond rfl (fun hc1 => ?_) (fun hc1 => ?_)
    · have heq : x = xs[k] := by simpa using hc1
      refine code_seq ?_
      refine code_region ?_
      refine op_v (v_move rfl) rfl ?_
      refine op_v (v_assign rfl) rfl ?_
      refine ops_nil ?_
      refine post_next ?_
      refine code_ret ?_
      refine post_ret_block ?_
      refine post_ret_then ?_
      refine post_ret_then ?_
      refine post_ret_block ?_
      refine post_ret_then ?_
      refine post_ret (rs := [.tmp 4]) rfl (List.Perm.refl _) (.cons (.tmp rfl) .nil) (List.nil_sublist _) ?_
      exact ⟨⟨k, rfl, by rw [heq]; simp⟩, rfl⟩
    · have hne : x ≠ xs[k] := by simpa using hc1
      refine code_skip ?_
      refine post_out ?_
      refine post_next ?_
      refine code_region ?_
      first | refine op_v (v_addb rfl rfl rfl (by omega)) rfl ?_ | refine op_v (v_add rfl rfl) rfl ?_
      refine op_v (v_move rfl) rfl ?_
      refine ops_nil ?_
      refine post_again (xs.length - (k + 1)) [(0, .slice ad xs.length c), (1, .int .i64 x), (7, .int .i64 xs.length), (8, .int .i64 (k + 1 : Nat))] (by omega) ⟨k + 1, rfl, rfl, rfl, rfl, ⟨hlt, by rw [List.take_succ_eq_append_getElem hlt, List.mem_append, List.mem_singleton]; exact fun h => h.elim hp hne⟩⟩ ⟨rfl, rfl, rfl, rfl, trivial⟩
  · have hge : k = xs.length := by simp at hc0; omega
    subst hge
    rw [List.take_length] at hp
    refine code_exit ?_
    refine post_exit_then ?_
    refine post_exit_then ?_
    refine post_exit ?_
    refine post_next ?_
    refine code_seq ?_
    refine code_region ?_
    refine op_v (v_assign rfl) rfl ?_
    refine ops_nil ?_
    refine post_next ?_
    refine code_ret ?_
    refine post_ret (rs := [.tmp 4]) rfl (List.Perm.refl _) (.cons (.tmp rfl) .nil) (List.nil_sublist _) ?_
    exact ⟨⟨-1, rfl, by simp [hp]⟩, rfl⟩
theorem ContIm_does {I : Imm} {v : Value} {xs : List Int} {x : Int} (hv : RInts I v xs) :
    Does Try.prog 45 [v, .int .i64 x] I [] (fun v _ δ' => v = .bool (decide (x ∈ xs)) ∧ δ' = []) := by
  refine Does.intro Try.func45 rfl Try.ntmps45 rfl fun w0 => ?_
  refine code_seq ?_
  refine code_region ?_
  refine op_v (v_assign rfl) rfl ?_
  refine ops_nil ?_
  refine post_next ?_
  refine code_seq ?_
  refine code_region ?_
  refine op_v (v_move rfl) rfl ?_
  refine op_v (v_move rfl) rfl ?_
  refine op_call pl61 rfl rfl ((IndexIm_does hv)) Parts.none ?_
  rintro v7 I7 _ hI7 ⟨⟨n, rfl, hn⟩, rfl⟩
  refine op_v (v_cmp (z := decide (x ∈ xs)) rfl rfl (by simp only [cmpI, hn])) rfl ?_
  refine op_v (v_assign rfl) rfl ?_
  refine ops_nil ?_
  refine post_next ?_
  refine code_ret ?_
  refine post_ret (rs := [.tmp 4]) rfl (List.Perm.refl _) (.cons (.tmp rfl) .nil) (List.nil_sublist _) ?_
  exact ⟨rfl, rfl⟩
theorem Child1_does {I : Imm} {b : Nat} {id : Int} {e : En} {u : List Value} (hu : EntE.R I e u) :
    Does Try.prog 50 [.agg u.toArray, .pointer (some ⟨b, 0, none⟩)] I [.box b 3 [.int .i64 id]] (fun v _ δ' => v = .bool (hasCh id e) ∧ δ' = [.box b 3 [.int .i64 id]]) := by
  obtain ⟨ca, cc, fa, fc, rfl, h1, h2⟩ := hu
  refine Does.intro Try.func50 rfl Try.ntmps50 rfl fun w0 => ?_
  refine code_seq ?_
  refine code_region ?_
  refine o_box rfl rfl rfl (fun b2 => ?_)
  refine op_v (v_assign rfl) rfl ?_
  refine ops_nil ?_
  refine post_next ?_
  refine code_seq ?_
  refine code_region ?_
  first | refine op_v (v_fieldB 2 Try.underlying39 rfl rfl fz28 rfl) rfl ?_ | refine op_v (v_fieldI 2 Try.underlying39 rfl rfl fz28 rfl (by assumption)) rfl ?_ | refine op_v (v_field Try.underlying39 rfl fz28 rfl rfl) rfl ?_
  refine op_v (v_loadA ty28 rfl rfl) rfl ?_
  refine op_v (v_loadA ty3 rfl rfl) rfl ?_
  refine op_call pl45 rfl rfl ((ContIm_does (x := id) h2)) Parts.none ?_
  rintro v7 I7 _ hI7 ⟨rfl, rfl⟩
  refine op_v (v_assign rfl) rfl ?_
  refine ops_nil ?_
  refine post_next ?_
  refine code_ret ?_
  refine post_ret (rs := [.tmp 3]) rfl (List.Perm.refl _) (.cons (.tmp rfl) .nil) (List.sublist_cons_self _ _) ?_
  exact ⟨rfl, rfl⟩
theorem SIn_does {I : Imm} {sb c : Nat} {A : Option Addr} {xs : List Value} {es : List En} {st : Int} (hrow : RowE EntE I xs es) (hes : es.length ≤ 5000) :
    Does Try.prog 14 [.pointer (some ⟨sb, 0, none⟩), .int .i64 st] I (SE sb A c es.length xs) (fun v I' δ' => RInts I' v (idsT (isSt st) es es.length) ∧ δ' = SE sb A c es.length xs) := by
  refine Does.intro Try.func14 rfl Try.ntmps14 rfl fun w0 => ?_
  refine code_seq ?_
  refine code_region ?_
  refine o_box rfl rfl rfl (fun b3 => ?_)
  refine op_v (v_assign rfl) rfl ?_
  refine ops_nil ?_
  refine post_next ?_
  refine code_seq ?_
  refine code_region ?_
  refine op_v (v_makeFunc rfl rfl) rfl ?_
  refine op_v (v_build bl89 rfl rfl) rfl ?_
  refine op_v (v_move rfl) rfl ?_
  refine op_call pl48 rfl rfl ((tof_does hrow hes (fun J e u hJ hu => FDoes.ofFunc (args := [_]) (caps := [_]) pl47 (In1_does (b := b3) (st := st) hu)))) ((List.perm_append_comm (l₁ := [_])).trans (List.Perm.of_eq (List.append_nil _).symm)) ?_
  rintro v8 I8 _ hI8 ⟨hr8, rfl⟩
  refine op_v (v_assign rfl) rfl ?_
  refine ops_nil ?_
  refine post_next ?_
  refine code_ret ?_
  refine post_ret (rs := [.tmp 4]) rfl ((List.Perm.of_eq (List.append_nil _))) (.cons (.tmp rfl) .nil) (List.Sublist.cons_cons _ (List.Sublist.cons_cons _ (List.nil_sublist _))) ?_
  exact ⟨hr8, rfl⟩
theorem SLive_does {I : Imm} {sb c : Nat} {A : Option Addr} {xs : List Value} {es : List En} (hrow : RowE EntE I xs es) (hes : es.length ≤ 5000) :
    Does Try.prog 16 [.pointer (some ⟨sb, 0, none⟩)] I (SE sb A c es.length xs) (fun v I' δ' => RInts I' v (idsT isLv es es.length) ∧ δ' = SE sb A c es.length xs) := by
  refine Does.intro Try.func16 rfl Try.ntmps16 rfl fun w0 => ?_
  refine code_seq ?_
  refine code_region ?_
  refine op_v (v_assign rfl) rfl ?_
  refine ops_nil ?_
  refine post_next ?_
  refine code_seq ?_
  refine code_region ?_
  refine op_v (v_build bl89 rfl rfl) rfl ?_
  refine op_v (v_move rfl) rfl ?_
  refine op_call pl48 rfl rfl ((tof_does (δf := []) (p := isLv) hrow hes (fun J e u hJ hu => Does.toF (args := [_]) (by kernel_rfl) (Live1_does hu)))) (List.Perm.refl _) ?_
  rintro v5 I5 _ hI5 ⟨hr5, rfl⟩
  refine op_v (v_assign rfl) rfl ?_
  refine ops_nil ?_
  refine post_next ?_
  refine code_ret ?_
  refine post_ret (rs := [.tmp 2]) rfl (List.Perm.refl _) (.cons (.tmp rfl) .nil) (List.Sublist.refl _) ?_
  exact ⟨hr5, rfl⟩
theorem SChild_does {I : Imm} {sb c : Nat} {A : Option Addr} {xs : List Value} {es : List En} {id : Int} (hrow : RowE EntE I xs es) (hes : es.length ≤ 5000) :
    Does Try.prog 20 [.pointer (some ⟨sb, 0, none⟩), .int .i64 id] I (SE sb A c es.length xs) (fun v I' δ' => RInts I' v (idsT (hasCh id) es es.length) ∧ δ' = SE sb A c es.length xs) := by
  refine Does.intro Try.func20 rfl Try.ntmps20 rfl fun w0 => ?_
  refine code_seq ?_
  refine code_region ?_
  refine o_box rfl rfl rfl (fun b3 => ?_)
  refine op_v (v_assign rfl) rfl ?_
  refine ops_nil ?_
  refine post_next ?_
  refine code_seq ?_
  refine code_region ?_
  refine op_v (v_makeFunc rfl rfl) rfl ?_
  refine op_v (v_build bl89 rfl rfl) rfl ?_
  refine op_v (v_move rfl) rfl ?_
  refine op_call pl48 rfl rfl ((tof_does hrow hes (fun J e u hJ hu => FDoes.ofFunc (args := [_]) (caps := [_]) pl50 (Child1_does (b := b3) (id := id) hu)))) ((List.perm_append_comm (l₁ := [_])).trans (List.Perm.of_eq (List.append_nil _).symm)) ?_
  rintro v8 I8 _ hI8 ⟨hr8, rfl⟩
  refine op_v (v_assign rfl) rfl ?_
  refine ops_nil ?_
  refine post_next ?_
  refine code_ret ?_
  refine post_ret (rs := [.tmp 4]) rfl ((List.Perm.of_eq (List.append_nil _))) (.cons (.tmp rfl) .nil) (List.Sublist.cons_cons _ (List.Sublist.cons_cons _ (List.nil_sublist _))) ?_
  exact ⟨hr8, rfl⟩
theorem SSize_does {I : Imm} {sb c : Nat} {A : Option Addr} {xs : List Value} {n : Nat} :
    Does Try.prog 15 [.pointer (some ⟨sb, 0, none⟩)] I (SE sb A c n xs) (fun v I' δ' => v = .int .i64 n ∧ δ' = SE sb A c n xs) := by
  refine Does.intro Try.func15 rfl Try.ntmps15 rfl fun w0 => ?_
  refine code_seq ?_
  refine code_region ?_
  refine op_v (v_assign rfl) rfl ?_
  refine ops_nil ?_
  refine post_next ?_
  refine code_seq ?_
  refine code_seq ?_
  refine code_region ?_
  refine op_v (v_move rfl) rfl ?_
  refine op_v (v_ptrq (z := false) Try.underlying24 rfl rfl rfl) rfl ?_
  refine ops_nil ?_
  refine post_next ?_
  refine code_cond_f rfl ?_
  refine code_skip ?_
  refine post_next ?_
  refine code_seq ?_
  refine code_region ?_
  refine op_v (v_move rfl) rfl ?_
  refine op_v (v_nilCheck rfl) rfl ?_
  first | refine op_v (v_fieldB 0 Try.underlying79 rfl rfl fz77 rfl) rfl ?_ | refine op_v (v_fieldI 0 Try.underlying79 rfl rfl fz77 rfl (by assumption)) rfl ?_ | refine op_v (v_field Try.underlying79 rfl fz77 rfl rfl) rfl ?_
  refine op_v (v_loadA ty77 rfl rfl) rfl ?_
  refine op_v (v_len Try.underlying77 rfl) rfl ?_
  refine op_v (v_assign rfl) rfl ?_
  refine ops_nil ?_
  refine post_next ?_
  refine code_ret ?_
  refine post_ret (rs := [.tmp 2]) rfl (List.Perm.refl _) (.cons (.tmp rfl) .nil) (List.Sublist.refl _) ?_
  exact ⟨rfl, rfl⟩
theorem SNew_does (I : Imm) : Does Try.prog 11 [] I [] (fun v _ δ' => ∃ sb, v = .pointer (some ⟨sb, 0, none⟩) ∧ δ' = SE sb none 0 0 []) := by
  refine Does.intro Try.func11 rfl Try.ntmps11 rfl fun w0 => ?_
  refine code_seq ?_
  refine code_region ?_
  refine op_v (v_assign rfl) rfl ?_
  refine ops_nil ?_
  refine post_next ?_
  refine code_seq ?_
  refine code_region ?_
  refine op_v (v_build bl79 rfl rfl) rfl ?_
  refine o_box rfl rfl rfl (fun b2 => ?_)
  refine op_v (v_assign rfl) rfl ?_
  refine ops_nil ?_
  refine post_next ?_
  refine code_ret ?_
  refine PostJ.view ((View.nilRow 39 5).trans (View.perm (List.Perm.swap _ _ _))) (post_ret (rs := [.tmp 0]) rfl (List.Perm.refl _) (.cons (.tmp rfl) .nil) (List.Sublist.refl _) ⟨_, rfl, rfl⟩)
theorem there_does {I : Imm} {sb c n : Nat} {A : Option Addr} {id : Int} (hn : n ≤ 1000000) :
    Does Try.prog 42 [.pointer (some ⟨sb, 0, none⟩), .int .i64 id] I [.box sb 79 [.slice A n c]] (fun v _ δ' => v = .bool (decide (0 ≤ id ∧ id < n)) ∧ δ' = [.box sb 79 [.slice A n c]]) := by
  refine Does.intro Try.func42 rfl Try.ntmps42 rfl fun w0 => ?_
  refine code_seq ?_
  refine code_region ?_
  refine op_v (v_assign rfl) rfl ?_
  refine ops_nil ?_
  refine post_next ?_
  refine code_seq ?_
  refine code_region ?_
  refine op_v (v_move rfl) rfl ?_
  by_cases h6 : 0 ≤ id
  · first | refine op_v (v_cmptA rfl rfl rfl) rfl ?_ | refine op_v (v_cmpfA rfl rfl rfl) rfl ?_ | refine op_v (v_cmp rfl rfl rfl) rfl ?_
    refine op_v (v_move rfl) rfl ?_
    first
      | (refine op_want rfl rfl ?_
         refine op_v (v_move rfl) rfl ?_)
      | (refine op_skip rfl rfl (by simp [undef]) rfl ?_)
    first
      | (refine op_want rfl rfl ?_
         refine op_v (v_move rfl) rfl ?_)
      | (refine op_skip rfl rfl (by simp [undef]) rfl ?_)
    first
      | (refine op_want rfl rfl ?_
         refine op_v (v_nilCheck rfl) rfl ?_)
      | (refine op_skip rfl rfl (by simp [undef]) rfl ?_)
    first
      | (refine op_want rfl rfl ?_
         first | refine op_v (v_fieldB 0 Try.underlying79 rfl rfl fz77 rfl) rfl ?_ | refine op_v (v_fieldI 0 Try.underlying79 rfl rfl fz77 rfl (by assumption)) rfl ?_ | refine op_v (v_field Try.underlying79 rfl fz77 rfl rfl) rfl ?_)
      | (refine op_skip rfl rfl (by simp [undef]) rfl ?_)
    first
      | (refine op_want rfl rfl ?_
         refine op_v (v_loadA ty77 rfl rfl) rfl ?_)
      | (refine op_skip rfl rfl (by simp [undef]) rfl ?_)
    first
      | (refine op_want rfl rfl ?_
         refine op_v (v_len Try.underlying77 rfl) rfl ?_)
      | (refine op_skip rfl rfl (by simp [undef]) rfl ?_)
    first
      | (refine op_want rfl rfl ?_
         refine op_v (v_cmp (z := decide (id < n)) rfl rfl rfl) rfl ?_)
      | (refine op_skip rfl rfl (by simp [undef]) rfl ?_)
    first | refine op_v (v_pickt rfl rfl) rfl ?_ | refine op_v (v_pickf rfl rfl) rfl ?_ | refine op_v (v_pickb rfl rfl rfl) rfl ?_
    refine op_v (v_assign rfl) rfl ?_
    refine ops_nil ?_
    refine post_next ?_
    refine code_ret ?_
    refine post_ret (rs := [.tmp 4]) rfl (List.Perm.refl _) (.cons (.tmp rfl) .nil) (List.Sublist.refl _) ?_
    exact ⟨by rw [show decide (0 ≤ id ∧ id < n) = decide (id < n) from decide_eq_decide.2 ⟨fun h => h.2, fun h => ⟨h6, h⟩⟩]; rfl, rfl⟩
  · first | refine op_v (v_cmptA rfl rfl rfl) rfl ?_ | refine op_v (v_cmpfA rfl rfl rfl) rfl ?_ | refine op_v (v_cmp rfl rfl rfl) rfl ?_
    refine op_v (v_move rfl) rfl ?_
    first
      | (refine op_want rfl rfl ?_
         refine op_v (v_move rfl) rfl ?_)
      | (refine op_skip rfl rfl (by simp [undef]) rfl ?_)
    first
      | (refine op_want rfl rfl ?_
         refine op_v (v_move rfl) rfl ?_)
      | (refine op_skip rfl rfl (by simp [undef]) rfl ?_)
    first
      | (refine op_want rfl rfl ?_
         refine op_v (v_nilCheck rfl) rfl ?_)
      | (refine op_skip rfl rfl (by simp [undef]) rfl ?_)
    first
      | (refine op_want rfl rfl ?_
         first | refine op_v (v_fieldB 0 Try.underlying79 rfl rfl fz77 rfl) rfl ?_ | refine op_v (v_fieldI 0 Try.underlying79 rfl rfl fz77 rfl (by assumption)) rfl ?_ | refine op_v (v_field Try.underlying79 rfl fz77 rfl rfl) rfl ?_)
      | (refine op_skip rfl rfl (by simp [undef]) rfl ?_)
    first
      | (refine op_want rfl rfl ?_
         refine op_v (v_loadA ty77 rfl rfl) rfl ?_)
      | (refine op_skip rfl rfl (by simp [undef]) rfl ?_)
    first
      | (refine op_want rfl rfl ?_
         refine op_v (v_len Try.underlying77 rfl) rfl ?_)
      | (refine op_skip rfl rfl (by simp [undef]) rfl ?_)
    first
      | (refine op_want rfl rfl ?_
         refine op_v (v_cmp (z := decide (id < n)) rfl rfl rfl) rfl ?_)
      | (refine op_skip rfl rfl (by simp [undef]) rfl ?_)
    first | refine op_v (v_pickt rfl rfl) rfl ?_ | refine op_v (v_pickf rfl rfl) rfl ?_ | refine op_v (v_pickb rfl rfl rfl) rfl ?_
    refine op_v (v_assign rfl) rfl ?_
    refine ops_nil ?_
    refine post_next ?_
    refine code_ret ?_
    refine post_ret (rs := [.tmp 4]) rfl (List.Perm.refl _) (.cons (.tmp rfl) .nil) (List.Sublist.refl _) ?_
    exact ⟨by rw [show decide (0 ≤ id ∧ id < n) = false from decide_eq_false fun h => h6 h.1]; rfl, rfl⟩
end Go.Proofs.Ythbcdffldcdfoaa
/- Walks: a store: one more entry, what one becomes, one of them. -/
set_option linter.unusedVariables false
set_option linter.unusedSimpArgs false
set_option linter.unnecessarySimpa false
/- short -/
namespace Go.Proofs.Ythbcdffldcdfoaa
open Go Lg

def need (r : Int) : Int := if r = 0 then 0 else if r = 1 then 1 else if r = 2 then 1 else if r = 3 then 2 else 0
def asksB (r m : Int) : Bool := if r < 0 ∨ 5 ≤ r then false else if r = 4 then decide (1 ≤ m) else decide (m = need r)
theorem need_run {r : Int} (h0 : 0 ≤ r) (h1 : r < 5) (w : World) : (Instr.index 105 (.agg #[.int .i64 0, .int .i64 1, .int .i64 1, .int .i64 2, .int .i64 0]) (.int .i64 r)).run Try.prog w = .ok (.int .i64 (need r)) w := by
  obtain rfl | rfl | rfl | rfl | rfl : r = 0 ∨ r = 1 ∨ r = 2 ∨ r = 3 ∨ r = 4 := by omega
  all_goals kernel_rfl
theorem asks_does {I : Imm} {r m : Int} : Does Try.prog 39 [.int .i64 r, .int .i64 m] I [] (fun v _ δ' => v = .bool (asksB r m) ∧ δ' = []) := by
  refine Does.intro Try.func39 rfl Try.ntmps39 rfl fun w0 => ?_
  refine code_seq ?_
  refine code_region ?_
  refine op_v (v_assign rfl) rfl ?_
  refine ops_nil ?_
  refine post_next ?_
  refine code_seq ?_
  refine code_seq ?_
  refine code_region ?_
  refine op_v (v_move rfl) rfl ?_
  by_cases h6 : r < 0
  · first | refine op_v (v_cmptA rfl rfl rfl) rfl ?_ | refine op_v (v_cmpfA rfl rfl rfl) rfl ?_ | refine op_v (v_cmp rfl rfl rfl) rfl ?_
    refine op_v (v_move rfl) rfl ?_
    first
      | (refine op_want rfl rfl ?_
         refine op_v (v_move rfl) rfl ?_)
      | (refine op_skip rfl rfl (by simp [undef]) rfl ?_)
    first
      | (refine op_want rfl rfl ?_
         first | refine op_v (v_cmptA rfl rfl rfl) rfl ?_ | refine op_v (v_cmpfA rfl rfl rfl) rfl ?_ | refine op_v (v_cmp rfl rfl rfl) rfl ?_)
      | (refine op_skip rfl rfl (by simp [undef]) rfl ?_)
    first | refine op_v (v_pickt rfl rfl) rfl ?_ | refine op_v (v_pickf rfl rfl) rfl ?_ | refine op_v (v_pickb rfl rfl rfl) rfl ?_
    refine ops_nil ?_
    refine post_next ?_
    refine code_cond_t rfl ?_
    refine code_seq ?_
    refine code_region ?_
    refine op_v (v_assign rfl) rfl ?_
    refine ops_nil ?_
    refine post_next ?_
    refine code_ret ?_
    refine post_ret_then ?_
    refine post_ret (rs := [.tmp 4]) rfl (List.Perm.refl _) (.cons (.tmp rfl) .nil) (List.nil_sublist _) ?_
    exact ⟨by rw [show asksB r m = false from if_pos (.inl h6)]; rfl, rfl⟩
  · first | refine op_v (v_cmptA rfl rfl rfl) rfl ?_ | refine op_v (v_cmpfA rfl rfl rfl) rfl ?_ | refine op_v (v_cmp rfl rfl rfl) rfl ?_
    refine op_v (v_move rfl) rfl ?_
    first
      | (refine op_want rfl rfl ?_
         refine op_v (v_move rfl) rfl ?_)
      | (refine op_skip rfl rfl (by simp [undef]) rfl ?_)
    by_cases h9 : 5 ≤ r
    · first
        | (refine op_want rfl rfl ?_
           first | refine op_v (v_cmptA rfl rfl rfl) rfl ?_ | refine op_v (v_cmpfA rfl rfl rfl) rfl ?_ | refine op_v (v_cmp rfl rfl rfl) rfl ?_)
        | (refine op_skip rfl rfl (by simp [undef]) rfl ?_)
      first | refine op_v (v_pickt rfl rfl) rfl ?_ | refine op_v (v_pickf rfl rfl) rfl ?_ | refine op_v (v_pickb rfl rfl rfl) rfl ?_
      refine ops_nil ?_
      refine post_next ?_
      refine code_cond_t rfl ?_
      refine code_seq ?_
      refine code_region ?_
      refine op_v (v_assign rfl) rfl ?_
      refine ops_nil ?_
      refine post_next ?_
      refine code_ret ?_
      refine post_ret_then ?_
      refine post_ret (rs := [.tmp 4]) rfl (List.Perm.refl _) (.cons (.tmp rfl) .nil) (List.nil_sublist _) ?_
      exact ⟨by rw [show asksB r m = false from if_pos (.inr h9)]; rfl, rfl⟩
    · first
        | (refine op_want rfl rfl ?_
           first | refine op_v (v_cmptA rfl rfl rfl) rfl ?_ | refine op_v (v_cmpfA rfl rfl rfl) rfl ?_ | refine op_v (v_cmp rfl rfl rfl) rfl ?_)
        | (refine op_skip rfl rfl (by simp [undef]) rfl ?_)
      first | refine op_v (v_pickt rfl rfl) rfl ?_ | refine op_v (v_pickf rfl rfl) rfl ?_ | refine op_v (v_pickb rfl rfl rfl) rfl ?_
      refine ops_nil ?_
      refine post_next ?_
      refine code_cond_f rfl ?_
      refine code_skip ?_
      refine post_next ?_
      refine code_seq ?_
      refine code_seq ?_
      refine code_region ?_
      refine op_v (v_move rfl) rfl ?_
      by_cases h12 : r = 4
      · first | refine op_v (v_cmptA rfl rfl rfl) rfl ?_ | refine op_v (v_cmpfA rfl rfl rfl) rfl ?_ | refine op_v (v_cmp rfl rfl rfl) rfl ?_
        refine ops_nil ?_
        refine post_next ?_
        refine code_cond_t rfl ?_
        refine code_seq ?_
        refine code_region ?_
        refine op_v (v_move rfl) rfl ?_
        refine op_v (v_cmp (z := decide (1 ≤ m)) rfl rfl rfl) rfl ?_
        refine op_v (v_assign rfl) rfl ?_
        refine ops_nil ?_
        refine post_next ?_
        refine code_ret ?_
        refine post_ret_then ?_
        refine post_ret (rs := [.tmp 4]) rfl (List.Perm.refl _) (.cons (.tmp rfl) .nil) (List.nil_sublist _) ?_
        exact ⟨by unfold asksB; rw [if_neg (by omega), if_pos h12]; rfl, rfl⟩
      · first | refine op_v (v_cmptA rfl rfl rfl) rfl ?_ | refine op_v (v_cmpfA rfl rfl rfl) rfl ?_ | refine op_v (v_cmp rfl rfl rfl) rfl ?_
        refine ops_nil ?_
        refine post_next ?_
        refine code_cond_f rfl ?_
        refine code_skip ?_
        refine post_next ?_
        refine code_seq ?_
        refine code_region ?_
        refine op_v (v_move rfl) rfl ?_
        refine op_v (v_buildK (v := .agg #[.int .i64 0, .int .i64 1, .int .i64 1, .int .i64 2, .int .i64 0]) rfl (fun _ => by kernel_rfl)) rfl ?_
        refine op_v (v_move rfl) rfl ?_
        refine op_v (v_indexK rfl rfl (need_run (by omega) (by omega))) rfl ?_
        refine op_v (v_cmp (z := decide (m = need r)) rfl rfl rfl) rfl ?_
        refine op_v (v_assign rfl) rfl ?_
        refine ops_nil ?_
        refine post_next ?_
        refine code_ret ?_
        refine post_ret (rs := [.tmp 4]) rfl (List.Perm.refl _) (.cons (.tmp rfl) .nil) (List.nil_sublist _) ?_
        exact ⟨by unfold asksB; rw [if_neg (by omega), if_neg h12]; rfl, rfl⟩
def becL (st : Int) : List Int := if st = 0 then [1, 2, 3, 4] else if st = 1 then [2, 3, 4, 5] else if st = 2 then [3] else []
theorem small_in {l : List Int} (h : ∀ x ∈ l, 0 ≤ x ∧ x ≤ 5) : ∀ x ∈ l, InR x := fun x hx => by have := h x hx; unfold InR; omega
theorem becomes_does (I : Imm) : Does Try.prog 46 [] I [] (fun v I' δ' => ∃ s0 s1 s2, v = .agg #[s0, s1, s2, .slice none 0 0, .slice none 0 0, .slice none 0 0] ∧ RInts I' s0 [1, 2, 3, 4] ∧ RInts I' s1 [2, 3, 4, 5] ∧ RInts I' s2 [3] ∧ δ' = []) := by
  refine Does.intro Try.func46 rfl Try.ntmps46 rfl fun w0 => ?_
  refine code_seq ?_
  refine code_region ?_
  refine o_alloc z85 rfl rfl (fun b0 => ?_)
  refine ops_nil ?_
  refine post_next ?_
  refine code_seq ?_
  refine code_region ?_
  refine o_buildSlice (xs := [(Go.Operand.const (Go.Value.int Go.IntKind.i64 1)), (Go.Operand.const (Go.Value.int Go.IntKind.i64 2)), (Go.Operand.const (Go.Value.int Go.IntKind.i64 3)), (Go.Operand.const (Go.Value.int Go.IntKind.i64 4))]) Try.underlying28 bs3 rfl rfl rfl rfl rfl (fun b1 => ?_)
  refine o_buildSlice (xs := [(Go.Operand.const (Go.Value.int Go.IntKind.i64 2)), (Go.Operand.const (Go.Value.int Go.IntKind.i64 3)), (Go.Operand.const (Go.Value.int Go.IntKind.i64 4)), (Go.Operand.const (Go.Value.int Go.IntKind.i64 5))]) Try.underlying28 bs3 rfl rfl rfl rfl rfl (fun b2 => ?_)
  refine o_buildSlice (xs := [(Go.Operand.const (Go.Value.int Go.IntKind.i64 3))]) Try.underlying28 bs3 rfl rfl rfl rfl rfl (fun b3 => ?_)
  refine OpsJ.freezeRow Del.here ?_
  rintro I3 a3 c3 hI3 hq hc3 hl3 hcells3
  cases hq
  refine OpsJ.freezeRow Del.here ?_
  rintro I2 a2 c2 hI2 hq hc2 hl2 hcells2
  cases hq
  refine OpsJ.freezeRow Del.here ?_
  rintro I1 a1 c1 hI1 hq hc1 hl1 hcells1
  cases hq
  refine op_v (v_buildK (v := .agg #[.slice (some ⟨b1, 0, none⟩) 4 4, .slice (some ⟨b2, 0, none⟩) 4 4, .slice (some ⟨b3, 0, none⟩) 1 1, .slice none 0 0, .slice none 0 0, .slice none 0 0]) rfl (fun _ => by kernel_rfl)) rfl ?_
  refine o_store ty85 rfl rfl rfl rfl rfl (by repeat (first | exact Swap.here | apply Swap.there)) rfl ?_
  refine ops_nil ?_
  refine post_next ?_
  refine code_ret ?_
  refine post_ret (rs := [.cell 0 85]) rfl (List.Perm.refl _) (.cons (.cell rfl ty85 (by repeat (first | exact Has.here | apply Has.there)) rfl) .nil) (List.nil_sublist _) ?_
  exact ⟨_, _, _, rfl, RInts.of rfl (by omega) (by omega) hcells1 (small_in (by decide)), RInts.of rfl (by omega) (by omega) (hcells2.mono Imm.leA) (small_in (by decide)), RInts.of rfl (by omega) (by omega) (hcells3.mono Imm.leA) (small_in (by decide)), rfl⟩
theorem bec_idx {I : Imm} {s0 s1 s2 : Value} {st : Int} (h0 : RInts I s0 [1, 2, 3, 4]) (h1 : RInts I s1 [2, 3, 4, 5]) (h2 : RInts I s2 [3]) (ha : 0 ≤ st) (hb : st ≤ 5) :
    ∃ s, (∀ w, (Instr.index 85 (.agg #[s0, s1, s2, .slice none 0 0, .slice none 0 0, .slice none 0 0]) (.int .i64 st)).run Try.prog w = .ok s w) ∧ RInts I s (becL st) := by
  obtain rfl | rfl | rfl | rfl | rfl | rfl : st = 0 ∨ st = 1 ∨ st = 2 ∨ st = 3 ∨ st = 4 ∨ st = 5 := by omega
  · exact ⟨s0, fun _ => by kernel_rfl, h0⟩
  · exact ⟨s1, fun _ => by kernel_rfl, h1⟩
  · exact ⟨s2, fun _ => by kernel_rfl, h2⟩
  · exact ⟨.slice none 0 0, fun _ => by kernel_rfl, RInts.nil I⟩
  · exact ⟨.slice none 0 0, fun _ => by kernel_rfl, RInts.nil I⟩
  · exact ⟨.slice none 0 0, fun _ => by kernel_rfl, RInts.nil I⟩
def moveOK (es : List En) (k : Nat) (hk : k < es.length) (state why : Int) : Prop := state ∈ becL es[k].st ∧ (why = -1 ∨ (state = 3 ∧ (0 ≤ why ∧ why < es.length) ∧ why ≠ k))
def MoveH (es : List En) (id state why e : Int) (es' : List En) : Prop :=
  (e ≠ 0 ∧ es' = es ∧ ∀ (k : Nat) (hk : k < es.length), id = k → ¬ moveOK es k hk state why) ∨ (e = 0 ∧ ∃ (k : Nat) (hk : k < es.length), id = k ∧ moveOK es k hk state why ∧ es' = es.set k { es[k] with st := state, why := why })
theorem SMove_does {I : Imm} {sb c : Nat} {A : Option Addr} {xs : List Value} {es : List En} {id state why : Int} (hrow : RowE EntE I xs es) (hes : es.length ≤ 5000) (hst : ∀ e ∈ es, 0 ≤ e.st ∧ e.st ≤ 5) :
    Does Try.prog 13 [.pointer (some ⟨sb, 0, none⟩), .int .i64 id, .int .i64 state, .int .i64 why] I (SE sb A c es.length xs) (fun v I' δ' => ∃ e xs' es', v = .int .i64 e ∧ MoveH es id state why e es' ∧ RowE EntE I' xs' es' ∧ δ' = SE sb A c es.length xs') := by
  refine Does.intro Try.func13 rfl Try.ntmps13 rfl fun w0 => ?_
  refine code_seq ?_
  refine code_region ?_
  refine op_v (v_assign rfl) rfl ?_
  refine ops_nil ?_
  refine post_next ?_
  refine code_seq_meet (fun σ' I' δ' => ∃ (k : Nat) (hk : k < es.length), id = k ∧ moveOK es k hk state why ∧ σ' = [(0, .pointer (some ⟨sb, 0, none⟩)), (1, .int .i64 (k : Int)), (2, .int .i64 state), (3, .int .i64 why)] ∧ I.le I' ∧ δ' = SE sb A c es.length xs) ?_ ?_
  · refine code_block ?_
    refine code_seq ?_
    refine code_region ?_
    refine op_v (v_move rfl) rfl ?_
    refine op_v (v_ptrq (z := false) Try.underlying24 rfl rfl rfl) rfl ?_
    refine op_v (v_assign rfl) rfl ?_
    refine ops_nil ?_
    refine post_next ?_
    refine code_cond_f rfl ?_
    refine code_seq ?_
    refine code_region ?_
    refine op_v (v_move rfl) rfl ?_
    refine op_v (v_move rfl) rfl ?_
    by_cases h15 : 0 ≤ id ∧ id < es.length
    · obtain ⟨k, rfl⟩ : ∃ k : Nat, id = k := ⟨id.toNat, by omega⟩
      have hlt : k < es.length := by omega
      have hsk := hst es[k] (List.getElem_mem hlt)
      obtain ⟨vs, ⟨ca, cc, fa, fc, rfl, hR1, hR2⟩, _, r, hdrop⟩ := hrow.at hlt
      have hld : ld false 1 (xs.drop (k * 5 + 3)) = some (.int .i64 es[k].st) := by rw [← List.drop_drop, hdrop]; rfl
      refine op_call pl42 rfl rfl ((there_does (n := es.length) (by omega))) (Parts.one Del.here) ?_
      rintro v15 I15 _ hI15 ⟨rfl, rfl⟩
      rw [decide_eq_true h15]
      refine op_v (v_not rfl) rfl ?_
      refine op_v (v_assign rfl) rfl ?_
      refine ops_nil ?_
      refine post_next ?_
      refine code_cond_f rfl ?_
      refine code_seq ?_
      refine CodeJ.rowSome (Has.there Has.here) (by omega) (fun hA hcr => ?_)
      refine code_draw (.fl 1 (.fl 2 (.fl 3 (.fl 4 (.fl 5 (.fl 6 (.fl 7 (.fl 8 (.fl 10 (.ef 0 (.fl 9 (.ef 11 (.fl 12 (.ef 13 .done)))))))))))))) (fun _ => SE sb A c es.length xs) mixed (by kernel_rfl) (by kernel_rfl) (fun _ => (List.Sublist.refl _)) ?_
      refine e_fl rfl rfl (fun hs_ => PF.mk rfl (v_move rfl) hs_) ?_
      refine e_fl rfl rfl (fun hs_ => PF.mk rfl (v_nilCheck rfl) hs_) ?_
      first | refine e_fl rfl rfl (fun hs_ => PF.mk rfl (v_fieldB 0 Try.underlying79 rfl rfl fz77 rfl) hs_) ?_ | refine e_fl rfl rfl (fun hs_ => PF.mk rfl (v_fieldI 0 Try.underlying79 rfl rfl fz77 rfl (by assumption)) hs_) ?_ | refine e_fl rfl rfl (fun hs_ => PF.mk rfl (v_field Try.underlying79 rfl fz77 rfl rfl) hs_) ?_
      refine e_fl rfl rfl (fun hs_ => PF.mk rfl (v_loadA ty77 rfl rfl) hs_) ?_
      refine e_fl rfl rfl (fun hs_ => PF.mk rfl (v_move rfl) hs_) ?_
      first | refine e_fl rfl rfl (fun hs_ => PF.mk rfl (v_indexA Try.underlying77 sz39 rfl rfl) hs_) ?_ | refine e_fl rfl rfl (fun hs_ => PF.mk rfl (v_indexIA Try.underlying77 sz39 rfl rfl) hs_) ?_
      first | refine e_fl rfl rfl (fun hs_ => PF.mk rfl (v_fieldB 3 Try.underlying39 rfl rfl fz3 rfl) hs_) ?_ | refine e_fl rfl rfl (fun hs_ => PF.mk rfl (v_fieldI 3 Try.underlying39 rfl rfl fz3 rfl (by assumption)) hs_) ?_ | refine e_fl rfl rfl (fun hs_ => PF.mk rfl (v_field Try.underlying39 rfl fz3 rfl rfl) hs_) ?_
      refine e_fl rfl rfl (fun hs_ => PF.mk rfl (v_loadRow (v := .int .i64 es[k].st) ty3 rfl (Has.there Has.here) hA hld) hs_) ?_
      refine e_fl rfl rfl (fun hs_ => PF.mk rfl (v_move rfl) hs_) ?_
      refine e_eff rfl (by intro cs b hc; cases hc) (by intro c hc; cases hc) ?_
      refine op_call pl46 rfl rfl ((becomes_does _)) Parts.none ?_
      rintro v18 I18 _ hI18 ⟨s0, s1, s2, rfl, hs0, hs1, hs2, rfl⟩
      obtain ⟨s, hsi, hsr⟩ := bec_idx hs0 hs1 hs2 hsk.1 hsk.2
      refine ops_nil ?_
      refine e_next rfl side_allA ?_
      refine e_fl rfl rfl (fun hs_ => PF.mk rfl (v_indexK rfl rfl hsi) hs_) ?_
      by_cases h29 : state ∈ becL es[k].st
      · refine e_eff rfl (by intro cs b hc; cases hc) (by intro c hc; cases hc) ?_
        refine op_call pl45 rfl rfl ((ContIm_does (x := state) hsr)) Parts.none ?_
        rintro v29 I29 _ hI29 ⟨rfl, rfl⟩
        rw [decide_eq_true h29]
        refine ops_nil ?_
        refine e_next rfl side_allA ?_
        refine e_fl rfl rfl (fun hs_ => PF.mk rfl (v_not rfl) hs_) ?_
        refine e_eff rfl (by intro cs b hc; cases hc) (by intro c hc; cases hc) ?_
        refine op_v (v_assign rfl) rfl ?_
        refine ops_nil ?_
        refine e_next rfl side_allA ?_
        refine e_done ?_
        refine post_next ?_
        refine code_cond_f rfl ?_
        refine code_seq ?_
        refine code_region ?_
        refine op_v (v_move rfl) rfl ?_
        by_cases h33 : why = -1
        · first | refine op_v (v_cmptA rfl rfl rfl) rfl ?_ | refine op_v (v_cmpfA rfl rfl rfl) rfl ?_ | refine op_v (v_cmp rfl rfl rfl) rfl ?_
          refine op_v (v_move rfl) rfl ?_
          first
            | (refine op_want rfl rfl ?_
               refine op_v (v_move rfl) rfl ?_)
            | (refine op_skip rfl rfl (by simp [undef]) rfl ?_)
          first
            | (refine op_want rfl rfl ?_
               first | refine op_v (v_cmptA rfl rfl rfl) rfl ?_ | refine op_v (v_cmpfA rfl rfl rfl) rfl ?_ | refine op_v (v_cmp rfl rfl rfl) rfl ?_)
            | (refine op_skip rfl rfl (by simp [undef]) rfl ?_)
          first
            | (refine op_want rfl rfl ?_
               refine op_v (v_move rfl) rfl ?_)
            | (refine op_skip rfl rfl (by simp [undef]) rfl ?_)
          first
            | (refine op_want rfl rfl ?_
               refine op_v (v_move rfl) rfl ?_)
            | (refine op_skip rfl rfl (by simp [undef]) rfl ?_)
          first
            | (refine op_want rfl rfl ?_
               refine op_v (v_move rfl) rfl ?_)
            | (refine op_skip rfl rfl (by simp [undef]) rfl ?_)
          first
            | (refine op_want rfl rfl ?_
               refine op_call pl42 rfl rfl ((there_does (n := es.length) (by omega))) (Parts.one Del.here) ?_
               rintro v40 I40 _ hI40 ⟨rfl, rfl⟩)
            | (refine op_skip rfl rfl (by simp [undef]) rfl ?_)
          first
            | (refine op_want rfl rfl ?_
               refine op_v (v_not rfl) rfl ?_)
            | (refine op_skip rfl rfl (by simp [undef]) rfl ?_)
          first
            | (refine op_want rfl rfl ?_
               first | refine op_v (v_pickt rfl rfl) rfl ?_ | refine op_v (v_pickf rfl rfl) rfl ?_ | refine op_v (v_pickb rfl rfl rfl) rfl ?_)
            | (refine op_skip rfl rfl (by simp [undef]) rfl ?_)
          first
            | (refine op_want rfl rfl ?_
               refine op_v (v_move rfl) rfl ?_)
            | (refine op_skip rfl rfl (by simp [undef]) rfl ?_)
          first
            | (refine op_want rfl rfl ?_
               refine op_v (v_move rfl) rfl ?_)
            | (refine op_skip rfl rfl (by simp [undef]) rfl ?_)
          first
            | (refine op_want rfl rfl ?_
               refine op_v (v_move rfl) rfl ?_)
            | (refine op_skip rfl rfl (by simp [undef]) rfl ?_)
          first
            | (refine op_want rfl rfl ?_
               first | refine op_v (v_cmptA rfl rfl rfl) rfl ?_ | refine op_v (v_cmpfA rfl rfl rfl) rfl ?_ | refine op_v (v_cmp rfl rfl rfl) rfl ?_)
            | (refine op_skip rfl rfl (by simp [undef]) rfl ?_)
          first
            | (refine op_want rfl rfl ?_
               first | refine op_v (v_pickt rfl rfl) rfl ?_ | refine op_v (v_pickf rfl rfl) rfl ?_ | refine op_v (v_pickb rfl rfl rfl) rfl ?_)
            | (refine op_skip rfl rfl (by simp [undef]) rfl ?_)
          first | refine op_v (v_pickt rfl rfl) rfl ?_ | refine op_v (v_pickf rfl rfl) rfl ?_ | refine op_v (v_pickb rfl rfl rfl) rfl ?_
          refine op_v (v_assign rfl) rfl ?_
          refine ops_nil ?_
          refine post_next ?_
          refine code_cond_f rfl ?_
          refine code_skip ?_
          refine post_out ?_
          exact post_meet _ ⟨k, hlt, rfl, ⟨h29, .inl h33⟩, rfl, Imm.leA, rfl⟩ ⟨rfl, rfl, rfl, rfl, trivial⟩
        · first | refine op_v (v_cmptA rfl rfl rfl) rfl ?_ | refine op_v (v_cmpfA rfl rfl rfl) rfl ?_ | refine op_v (v_cmp rfl rfl rfl) rfl ?_
          refine op_v (v_move rfl) rfl ?_
          first
            | (refine op_want rfl rfl ?_
               refine op_v (v_move rfl) rfl ?_)
            | (refine op_skip rfl rfl (by simp [undef]) rfl ?_)
          by_cases h36 : state = 3
          · first
              | (refine op_want rfl rfl ?_
                 first | refine op_v (v_cmptA rfl rfl rfl) rfl ?_ | refine op_v (v_cmpfA rfl rfl rfl) rfl ?_ | refine op_v (v_cmp rfl rfl rfl) rfl ?_)
              | (refine op_skip rfl rfl (by simp [undef]) rfl ?_)
            first
              | (refine op_want rfl rfl ?_
                 refine op_v (v_move rfl) rfl ?_)
              | (refine op_skip rfl rfl (by simp [undef]) rfl ?_)
            first
              | (refine op_want rfl rfl ?_
                 refine op_v (v_move rfl) rfl ?_)
              | (refine op_skip rfl rfl (by simp [undef]) rfl ?_)
            first
              | (refine op_want rfl rfl ?_
                 refine op_v (v_move rfl) rfl ?_)
              | (refine op_skip rfl rfl (by simp [undef]) rfl ?_)
            by_cases h40 : 0 ≤ why ∧ why < es.length
            · first
                | (refine op_want rfl rfl ?_
                   refine op_call pl42 rfl rfl ((there_does (n := es.length) (by omega))) (Parts.one Del.here) ?_
                   rintro v40 I40 _ hI40 ⟨rfl, rfl⟩
                   rw [decide_eq_true h40])
                | (refine op_skip rfl rfl (by simp [undef]) rfl ?_)
              first
                | (refine op_want rfl rfl ?_
                   refine op_v (v_not rfl) rfl ?_)
                | (refine op_skip rfl rfl (by simp [undef]) rfl ?_)
              first
                | (refine op_want rfl rfl ?_
                   first | refine op_v (v_pickt rfl rfl) rfl ?_ | refine op_v (v_pickf rfl rfl) rfl ?_ | refine op_v (v_pickb rfl rfl rfl) rfl ?_)
                | (refine op_skip rfl rfl (by simp [undef]) rfl ?_)
              first
                | (refine op_want rfl rfl ?_
                   refine op_v (v_move rfl) rfl ?_)
                | (refine op_skip rfl rfl (by simp [undef]) rfl ?_)
              first
                | (refine op_want rfl rfl ?_
                   refine op_v (v_move rfl) rfl ?_)
                | (refine op_skip rfl rfl (by simp [undef]) rfl ?_)
              first
                | (refine op_want rfl rfl ?_
                   refine op_v (v_move rfl) rfl ?_)
                | (refine op_skip rfl rfl (by simp [undef]) rfl ?_)
              by_cases h46 : why = k
              · first
                  | (refine op_want rfl rfl ?_
                     first | refine op_v (v_cmptA rfl rfl rfl) rfl ?_ | refine op_v (v_cmpfA rfl rfl rfl) rfl ?_ | refine op_v (v_cmp rfl rfl rfl) rfl ?_)
                  | (refine op_skip rfl rfl (by simp [undef]) rfl ?_)
                first
                  | (refine op_want rfl rfl ?_
                     first | refine op_v (v_pickt rfl rfl) rfl ?_ | refine op_v (v_pickf rfl rfl) rfl ?_ | refine op_v (v_pickb rfl rfl rfl) rfl ?_)
                  | (refine op_skip rfl rfl (by simp [undef]) rfl ?_)
                first | refine op_v (v_pickt rfl rfl) rfl ?_ | refine op_v (v_pickf rfl rfl) rfl ?_ | refine op_v (v_pickb rfl rfl rfl) rfl ?_
                refine op_v (v_assign rfl) rfl ?_
                refine ops_nil ?_
                refine post_next ?_
                refine code_cond_t rfl ?_
                refine code_seq ?_
                refine code_region ?_
                refine op_v (v_assign rfl) rfl ?_
                refine ops_nil ?_
                refine post_next ?_
                refine code_ret ?_
                refine post_ret_block ?_
                refine post_ret_then ?_
                refine post_ret (rs := [.tmp 8]) rfl (List.Perm.refl _) (.cons (.tmp rfl) .nil) (List.Sublist.refl _) ?_
                exact ⟨1, xs, es, rfl, .inl ⟨by decide, rfl, fun k' hk h q => by have : k' = k := (by omega); subst this; rcases q.2 with h | h; exact h33 h; exact h.2.2 h46⟩, hrow.mono Imm.leA, rfl⟩
              · first
                  | (refine op_want rfl rfl ?_
                     first | refine op_v (v_cmptA rfl rfl rfl) rfl ?_ | refine op_v (v_cmpfA rfl rfl rfl) rfl ?_ | refine op_v (v_cmp rfl rfl rfl) rfl ?_)
                  | (refine op_skip rfl rfl (by simp [undef]) rfl ?_)
                first
                  | (refine op_want rfl rfl ?_
                     first | refine op_v (v_pickt rfl rfl) rfl ?_ | refine op_v (v_pickf rfl rfl) rfl ?_ | refine op_v (v_pickb rfl rfl rfl) rfl ?_)
                  | (refine op_skip rfl rfl (by simp [undef]) rfl ?_)
                first | refine op_v (v_pickt rfl rfl) rfl ?_ | refine op_v (v_pickf rfl rfl) rfl ?_ | refine op_v (v_pickb rfl rfl rfl) rfl ?_
                refine op_v (v_assign rfl) rfl ?_
                refine ops_nil ?_
                refine post_next ?_
                refine code_cond_f rfl ?_
                refine code_skip ?_
                refine post_out ?_
                exact post_meet _ ⟨k, hlt, rfl, ⟨h29, .inr ⟨h36, h40, h46⟩⟩, rfl, Imm.leA, rfl⟩ ⟨rfl, rfl, rfl, rfl, trivial⟩
            · first
                | (refine op_want rfl rfl ?_
                   refine op_call pl42 rfl rfl ((there_does (n := es.length) (by omega))) (Parts.one Del.here) ?_
                   rintro v40 I40 _ hI40 ⟨rfl, rfl⟩
                   rw [decide_eq_false h40])
                | (refine op_skip rfl rfl (by simp [undef]) rfl ?_)
              first
                | (refine op_want rfl rfl ?_
                   refine op_v (v_not rfl) rfl ?_)
                | (refine op_skip rfl rfl (by simp [undef]) rfl ?_)
              first
                | (refine op_want rfl rfl ?_
                   first | refine op_v (v_pickt rfl rfl) rfl ?_ | refine op_v (v_pickf rfl rfl) rfl ?_ | refine op_v (v_pickb rfl rfl rfl) rfl ?_)
                | (refine op_skip rfl rfl (by simp [undef]) rfl ?_)
              first
                | (refine op_want rfl rfl ?_
                   refine op_v (v_move rfl) rfl ?_)
                | (refine op_skip rfl rfl (by simp [undef]) rfl ?_)
              first
                | (refine op_want rfl rfl ?_
                   refine op_v (v_move rfl) rfl ?_)
                | (refine op_skip rfl rfl (by simp [undef]) rfl ?_)
              first
                | (refine op_want rfl rfl ?_
                   refine op_v (v_move rfl) rfl ?_)
                | (refine op_skip rfl rfl (by simp [undef]) rfl ?_)
              first
                | (refine op_want rfl rfl ?_
                   first | refine op_v (v_cmptA rfl rfl rfl) rfl ?_ | refine op_v (v_cmpfA rfl rfl rfl) rfl ?_ | refine op_v (v_cmp rfl rfl rfl) rfl ?_)
                | (refine op_skip rfl rfl (by simp [undef]) rfl ?_)
              first
                | (refine op_want rfl rfl ?_
                   first | refine op_v (v_pickt rfl rfl) rfl ?_ | refine op_v (v_pickf rfl rfl) rfl ?_ | refine op_v (v_pickb rfl rfl rfl) rfl ?_)
                | (refine op_skip rfl rfl (by simp [undef]) rfl ?_)
              first | refine op_v (v_pickt rfl rfl) rfl ?_ | refine op_v (v_pickf rfl rfl) rfl ?_ | refine op_v (v_pickb rfl rfl rfl) rfl ?_
              refine op_v (v_assign rfl) rfl ?_
              refine ops_nil ?_
              refine post_next ?_
              refine code_cond_t rfl ?_
              refine code_seq ?_
              refine code_region ?_
              refine op_v (v_assign rfl) rfl ?_
              refine ops_nil ?_
              refine post_next ?_
              refine code_ret ?_
              refine post_ret_block ?_
              refine post_ret_then ?_
              refine post_ret (rs := [.tmp 8]) rfl (List.Perm.refl _) (.cons (.tmp rfl) .nil) (List.Sublist.refl _) ?_
              exact ⟨1, xs, es, rfl, .inl ⟨by decide, rfl, fun k' hk h q => by have : k' = k := (by omega); subst this; rcases q.2 with h | h; exact h33 h; exact h40 h.2.1⟩, hrow.mono Imm.leA, rfl⟩
          · first
              | (refine op_want rfl rfl ?_
                 first | refine op_v (v_cmptA rfl rfl rfl) rfl ?_ | refine op_v (v_cmpfA rfl rfl rfl) rfl ?_ | refine op_v (v_cmp rfl rfl rfl) rfl ?_)
              | (refine op_skip rfl rfl (by simp [undef]) rfl ?_)
            first
              | (refine op_want rfl rfl ?_
                 refine op_v (v_move rfl) rfl ?_)
              | (refine op_skip rfl rfl (by simp [undef]) rfl ?_)
            first
              | (refine op_want rfl rfl ?_
                 refine op_v (v_move rfl) rfl ?_)
              | (refine op_skip rfl rfl (by simp [undef]) rfl ?_)
            first
              | (refine op_want rfl rfl ?_
                 refine op_v (v_move rfl) rfl ?_)
              | (refine op_skip rfl rfl (by simp [undef]) rfl ?_)
            first
              | (refine op_want rfl rfl ?_
                 refine op_call pl42 rfl rfl ((there_does (n := es.length) (by omega))) (Parts.one Del.here) ?_
                 rintro v40 I40 _ hI40 ⟨rfl, rfl⟩)
              | (refine op_skip rfl rfl (by simp [undef]) rfl ?_)
            first
              | (refine op_want rfl rfl ?_
                 refine op_v (v_not rfl) rfl ?_)
              | (refine op_skip rfl rfl (by simp [undef]) rfl ?_)
            first
              | (refine op_want rfl rfl ?_
                 first | refine op_v (v_pickt rfl rfl) rfl ?_ | refine op_v (v_pickf rfl rfl) rfl ?_ | refine op_v (v_pickb rfl rfl rfl) rfl ?_)
              | (refine op_skip rfl rfl (by simp [undef]) rfl ?_)
            first
              | (refine op_want rfl rfl ?_
                 refine op_v (v_move rfl) rfl ?_)
              | (refine op_skip rfl rfl (by simp [undef]) rfl ?_)
            first
              | (refine op_want rfl rfl ?_
                 refine op_v (v_move rfl) rfl ?_)
              | (refine op_skip rfl rfl (by simp [undef]) rfl ?_)
            first
              | (refine op_want rfl rfl ?_
                 refine op_v (v_move rfl) rfl ?_)
              | (refine op_skip rfl rfl (by simp [undef]) rfl ?_)
            first
              | (refine op_want rfl rfl ?_
                 first | refine op_v (v_cmptA rfl rfl rfl) rfl ?_ | refine op_v (v_cmpfA rfl rfl rfl) rfl ?_ | refine op_v (v_cmp rfl rfl rfl) rfl ?_)
              | (refine op_skip rfl rfl (by simp [undef]) rfl ?_)
            first
              | (refine op_want rfl rfl ?_
                 first | refine op_v (v_pickt rfl rfl) rfl ?_ | refine op_v (v_pickf rfl rfl) rfl ?_ | refine op_v (v_pickb rfl rfl rfl) rfl ?_)
              | (refine op_skip rfl rfl (by simp [undef]) rfl ?_)
            first | refine op_v (v_pickt rfl rfl) rfl ?_ | refine op_v (v_pickf rfl rfl) rfl ?_ | refine op_v (v_pickb rfl rfl rfl) rfl ?_
            refine op_v (v_assign rfl) rfl ?_
            refine ops_nil ?_
            refine post_next ?_
            refine code_cond_t rfl ?_
            refine code_seq ?_
            refine code_region ?_
            refine op_v (v_assign rfl) rfl ?_
            refine ops_nil ?_
            refine post_next ?_
            refine code_ret ?_
            refine post_ret_block ?_
            refine post_ret_then ?_
            refine post_ret (rs := [.tmp 8]) rfl (List.Perm.refl _) (.cons (.tmp rfl) .nil) (List.Sublist.refl _) ?_
            exact ⟨1, xs, es, rfl, .inl ⟨by decide, rfl, fun k' hk h q => by have : k' = k := (by omega); subst this; rcases q.2 with h | h; exact h33 h; exact h36 h.1⟩, hrow.mono Imm.leA, rfl⟩
      · refine e_eff rfl (by intro cs b hc; cases hc) (by intro c hc; cases hc) ?_
        refine op_call pl45 rfl rfl ((ContIm_does (x := state) hsr)) Parts.none ?_
        rintro v29 I29 _ hI29 ⟨rfl, rfl⟩
        rw [decide_eq_false h29]
        refine ops_nil ?_
        refine e_next rfl side_allA ?_
        refine e_fl rfl rfl (fun hs_ => PF.mk rfl (v_not rfl) hs_) ?_
        refine e_eff rfl (by intro cs b hc; cases hc) (by intro c hc; cases hc) ?_
        refine op_v (v_assign rfl) rfl ?_
        refine ops_nil ?_
        refine e_next rfl side_allA ?_
        refine e_done ?_
        refine post_next ?_
        refine code_cond_t rfl ?_
        refine code_seq ?_
        refine code_region ?_
        refine op_v (v_assign rfl) rfl ?_
        refine ops_nil ?_
        refine post_next ?_
        refine code_ret ?_
        refine post_ret_block ?_
        refine post_ret_then ?_
        refine post_ret (rs := [.tmp 8]) rfl (List.Perm.refl _) (.cons (.tmp rfl) .nil) (List.Sublist.refl _) ?_
        exact ⟨4, xs, es, rfl, .inl ⟨by decide, rfl, fun k' hk h q => by have : k' = k := (by omega); subst this; exact h29 q.1⟩, hrow.mono Imm.leA, rfl⟩
    · refine op_call pl42 rfl rfl ((there_does (n := es.length) (by omega))) (Parts.one Del.here) ?_
      rintro v15 I15 _ hI15 ⟨rfl, rfl⟩
      rw [decide_eq_false h15]
      refine op_v (v_not rfl) rfl ?_
      refine op_v (v_assign rfl) rfl ?_
      refine ops_nil ?_
      refine post_next ?_
      refine code_cond_t rfl ?_
      refine code_seq ?_
      refine code_region ?_
      refine op_v (v_assign rfl) rfl ?_
      refine ops_nil ?_
      refine post_next ?_
      refine code_ret ?_
      refine post_ret_block ?_
      refine post_ret_then ?_
      refine post_ret (rs := [.tmp 8]) rfl (List.Perm.refl _) (.cons (.tmp rfl) .nil) (List.Sublist.refl _) ?_
      exact ⟨6, xs, es, rfl, .inl ⟨by decide, rfl, fun k hk h _ => h15 ⟨by omega, by omega⟩⟩, hrow.mono Imm.leA, rfl⟩
  · rintro _ I2 _ ⟨k, hlt, rfl, hok, rfl, hI2, rfl⟩
    obtain ⟨vs, hvR, _, hst1⟩ := (hrow.mono hI2).store (b := { es[k] with st := state }) hlt
    obtain ⟨ca, cc, fa, fc, rfl, hR1, hR2⟩ := hvR
    obtain ⟨ys, hys, hrow1⟩ := hst1 3 [.int .i64 state] _ rfl ⟨ca, cc, fa, fc, rfl, hR1, hR2⟩
    have hl1 : k < (es.set k { es[k] with st := state }).length := by simpa using hlt
    obtain ⟨vs2, hvR2, _, hst2⟩ := hrow1.store (b := { es[k] with st := state, why := why }) hl1
    rw [List.getElem_set_self] at hvR2
    obtain ⟨ca', cc', fa', fc', rfl, hR1', hR2'⟩ := hvR2
    obtain ⟨zs, hzs, hrow2⟩ := hst2 4 [.int .i64 why] _ rfl ⟨ca', cc', fa', fc', rfl, hR1', hR2'⟩
    rw [List.set_set] at hrow2
    refine code_seq ?_
    refine CodeJ.rowSome (Has.there Has.here) (by omega) (fun hA hcr => ?_)
    refine code_draw (.fl 0 (.fl 1 (.fl 2 (.fl 3 (.fl 4 (.fl 5 (.fl 6 (.fl 7 (.fl 8 (.fl 9 (.fl 10 (.fl 11 (.fl 12 (.fl 13 (.ef 14 (.fl 15 (.fl 16 (.ef 17 .done)))))))))))))))))) (fun _ => [.box sb 79 [.slice A es.length c]]) mixed (by kernel_rfl) (by kernel_rfl) (fun _ => (List.Sublist.cons_cons _ (List.nil_sublist _))) ?_
    refine e_fl rfl rfl (fun hs_ => PF.mk rfl (v_move rfl) hs_) ?_
    refine e_fl rfl rfl (fun hs_ => PF.mk rfl (v_nilCheck rfl) hs_) ?_
    first | refine e_fl rfl rfl (fun hs_ => PF.mk rfl (v_fieldB 0 Try.underlying79 rfl rfl fz77 rfl) hs_) ?_ | refine e_fl rfl rfl (fun hs_ => PF.mk rfl (v_fieldI 0 Try.underlying79 rfl rfl fz77 rfl (by assumption)) hs_) ?_ | refine e_fl rfl rfl (fun hs_ => PF.mk rfl (v_field Try.underlying79 rfl fz77 rfl rfl) hs_) ?_
    refine e_fl rfl rfl (fun hs_ => PF.mk rfl (v_loadA ty77 rfl rfl) hs_) ?_
    refine e_fl rfl rfl (fun hs_ => PF.mk rfl (v_move rfl) hs_) ?_
    refine e_fl rfl rfl (fun hs_ => PF.mk rfl (v_move rfl) hs_) ?_
    refine e_fl rfl rfl (fun hs_ => PF.mk rfl (v_nilCheck rfl) hs_) ?_
    first | refine e_fl rfl rfl (fun hs_ => PF.mk rfl (v_fieldB 0 Try.underlying79 rfl rfl fz77 rfl) hs_) ?_ | refine e_fl rfl rfl (fun hs_ => PF.mk rfl (v_fieldI 0 Try.underlying79 rfl rfl fz77 rfl (by assumption)) hs_) ?_ | refine e_fl rfl rfl (fun hs_ => PF.mk rfl (v_field Try.underlying79 rfl fz77 rfl rfl) hs_) ?_
    refine e_fl rfl rfl (fun hs_ => PF.mk rfl (v_loadA ty77 rfl rfl) hs_) ?_
    refine e_fl rfl rfl (fun hs_ => PF.mk rfl (v_move rfl) hs_) ?_
    refine e_fl rfl rfl (fun hs_ => PF.mk rfl (v_move rfl) hs_) ?_
    refine e_fl rfl rfl (fun hs_ => PF.mk rfl (v_move rfl) hs_) ?_
    first | refine e_fl rfl rfl (fun hs_ => PF.mk rfl (v_indexA Try.underlying77 sz39 rfl rfl) hs_) ?_ | refine e_fl rfl rfl (fun hs_ => PF.mk rfl (v_indexIA Try.underlying77 sz39 rfl rfl) hs_) ?_
    first | refine e_fl rfl rfl (fun hs_ => PF.mk rfl (v_fieldB 3 Try.underlying39 rfl rfl fz3 rfl) hs_) ?_ | refine e_fl rfl rfl (fun hs_ => PF.mk rfl (v_fieldI 3 Try.underlying39 rfl rfl fz3 rfl (by assumption)) hs_) ?_ | refine e_fl rfl rfl (fun hs_ => PF.mk rfl (v_field Try.underlying39 rfl fz3 rfl rfl) hs_) ?_
    refine e_eff rfl (by intro cs b hc; cases hc) (by intro c hc; cases hc) ?_
    refine o_storeRow (xs' := ys) ty3 rfl rfl hA rfl rfl rfl (by simp [cellsL]) (Swap.there Swap.here) hys ?_
    refine ops_nil ?_
    refine e_next_ side_allA ?_
    first | refine e_fl rfl rfl (fun hs_ => PF.mk rfl (v_indexA Try.underlying77 sz39 rfl rfl) hs_) ?_ | refine e_fl rfl rfl (fun hs_ => PF.mk rfl (v_indexIA Try.underlying77 sz39 rfl rfl) hs_) ?_
    first | refine e_fl rfl rfl (fun hs_ => PF.mk rfl (v_fieldB 4 Try.underlying39 rfl rfl fz3 rfl) hs_) ?_ | refine e_fl rfl rfl (fun hs_ => PF.mk rfl (v_fieldI 4 Try.underlying39 rfl rfl fz3 rfl (by assumption)) hs_) ?_ | refine e_fl rfl rfl (fun hs_ => PF.mk rfl (v_field Try.underlying39 rfl fz3 rfl rfl) hs_) ?_
    refine e_eff rfl (by intro cs b hc; cases hc) (by intro c hc; cases hc) ?_
    refine o_storeRow (xs' := zs) ty3 rfl rfl hA rfl rfl rfl (by simp [cellsL]) (Swap.there Swap.here) hzs ?_
    refine ops_nil ?_
    refine e_next_ side_allA ?_
    refine e_done ?_
    refine post_next ?_
    refine code_seq ?_
    refine code_region ?_
    refine op_v (v_assign rfl) rfl ?_
    refine ops_nil ?_
    refine post_next ?_
    refine code_ret ?_
    refine post_ret (rs := [.tmp 8]) rfl (List.Perm.refl _) (.cons (.tmp rfl) .nil) (List.Sublist.refl _) ?_
    exact ⟨0, zs, _, rfl, .inr ⟨rfl, k, hlt, rfl, hok, rfl⟩, hrow2, rfl⟩
theorem SGet_does {I : Imm} {sb c : Nat} {A : Option Addr} {xs : List Value} {es : List En} {k : Nat} (hrow : RowE EntE I xs es) (hes : es.length ≤ 5000) (hlt : k < es.length) :
    Does Try.prog 17 [.pointer (some ⟨sb, 0, none⟩), .int .i64 k] I (SE sb A c es.length xs) (fun v I' δ' => ∃ ca cc fa fc, v = .tuple #[.agg #[.slice ca es[k].cl.length cc, .int .i64 es[k].rule, .slice fa es[k].from_.length fc, .int .i64 es[k].st, .int .i64 es[k].why], .int .i64 0] ∧ RepC I' (.slice ca es[k].cl.length cc) es[k].cl ∧ RInts I' (.slice fa es[k].from_.length fc) es[k].from_ ∧ δ' = SE sb A c es.length xs) := by
  obtain ⟨vs, ⟨ca, cc, fa, fc, rfl, hR1, hR2⟩, _, r, hdrop⟩ := hrow.at hlt
  refine Does.intro Try.func17 rfl Try.ntmps17 rfl fun w0 => ?_
  refine code_seq ?_
  refine code_region ?_
  refine o_alloc z39 rfl rfl (fun b4 => ?_)
  refine op_v (v_assign rfl) rfl ?_
  refine ops_nil ?_
  refine post_next ?_
  refine code_seq ?_
  refine code_seq ?_
  refine code_region ?_
  refine op_v (v_move rfl) rfl ?_
  refine op_v (v_ptrq (z := false) Try.underlying24 rfl rfl rfl) rfl ?_
  refine ops_nil ?_
  refine post_next ?_
  refine code_cond_f rfl ?_
  refine code_skip ?_
  refine post_next ?_
  refine code_seq ?_
  refine code_seq ?_
  refine code_region ?_
  refine op_v (v_move rfl) rfl ?_
  refine op_v (v_move rfl) rfl ?_
  refine op_call pl42 rfl rfl ((there_does (n := es.length) (by omega))) (Parts.one (Del.there Del.here)) ?_
  rintro v12 I12 _ hI12 ⟨rfl, rfl⟩
  rw [decide_eq_true (show 0 ≤ (k : Int) ∧ (k : Int) < (es.length : Nat) by omega)]
  refine op_v (v_not rfl) rfl ?_
  refine ops_nil ?_
  refine post_next ?_
  refine code_cond_f rfl ?_
  refine code_skip ?_
  refine post_next ?_
  refine code_seq ?_
  refine code_region ?_
  refine OpsJ.rowSome (Has.there (Has.there Has.here)) (by omega) (fun hA hcr => ?_)
  refine op_v (v_move rfl) rfl ?_
  refine op_v (v_nilCheck rfl) rfl ?_
  first | refine op_v (v_fieldB 0 Try.underlying79 rfl rfl fz77 rfl) rfl ?_ | refine op_v (v_fieldI 0 Try.underlying79 rfl rfl fz77 rfl (by assumption)) rfl ?_ | refine op_v (v_field Try.underlying79 rfl fz77 rfl rfl) rfl ?_
  refine op_v (v_loadA ty77 rfl rfl) rfl ?_
  refine op_v (v_move rfl) rfl ?_
  first | refine op_v (v_indexA Try.underlying77 sz39 rfl rfl) rfl ?_ | refine op_v (v_indexIA Try.underlying77 sz39 rfl rfl) rfl ?_
  refine op_v (v_loadRow (v := .agg #[.slice ca es[k].cl.length cc, .int .i64 es[k].rule, .slice fa es[k].from_.length fc, .int .i64 es[k].st, .int .i64 es[k].why]) ty39 rfl (Has.there (Has.there Has.here)) hA (by rw [hdrop]; rfl)) rfl ?_
  refine o_alloc z39 rfl rfl (fun b6 => ?_)
  refine o_store ty39 rfl rfl rfl rfl rfl (by repeat (first | exact Swap.here | apply Swap.there)) rfl ?_
  refine ops_nil ?_
  refine post_next ?_
  refine code_seq ?_
  refine code_draw (.fl 0 (.fl 1 (.fl 3 (.fl 4 (.ef 2 (.fl 6 (.ef 5 (.ef 7 (.fl 8 (.ef 9 .done)))))))))) (keepP [1, 4] [.box b6 39 [.slice ca es[k].cl.length cc, .int .i64 es[k].rule, .slice fa es[k].from_.length fc, .int .i64 es[k].st, .int .i64 es[k].why]]) mixed (by kernel_rfl) (by kernel_rfl) (keepP_sub (List.Sublist.cons_cons _ (List.nil_sublist _))) ?_
  first | refine e_float rfl rfl (fun hs_ => PF.mk rfl (v_fieldB 0 Try.underlying39 rfl rfl fz27 rfl) hs_) Imm.leA (by first | exact (fun x hx => nomatch (show x ∈ ([] : List Ent) from hx)) | exact keepP_mem (by intro x hx; simp only [List.mem_cons, List.not_mem_nil, or_false] at hx; repeat' (first | (subst hx; simp [cellsL]; done) | rcases hx with hx | hx)) _) ?_ | refine e_float rfl rfl (fun hs_ => PF.mk rfl (v_fieldI 0 Try.underlying39 rfl rfl fz27 rfl (by assumption)) hs_) Imm.leA (by first | exact (fun x hx => nomatch (show x ∈ ([] : List Ent) from hx)) | exact keepP_mem (by intro x hx; simp only [List.mem_cons, List.not_mem_nil, or_false] at hx; repeat' (first | (subst hx; simp [cellsL]; done) | rcases hx with hx | hx)) _) ?_ | refine e_float rfl rfl (fun hs_ => PF.mk rfl (v_field Try.underlying39 rfl fz27 rfl rfl) hs_) Imm.leA (by first | exact (fun x hx => nomatch (show x ∈ ([] : List Ent) from hx)) | exact keepP_mem (by intro x hx; simp only [List.mem_cons, List.not_mem_nil, or_false] at hx; repeat' (first | (subst hx; simp [cellsL]; done) | rcases hx with hx | hx)) _) ?_
  refine e_float rfl rfl (fun hs_ => PF.mk rfl (v_loadA ty27 rfl rfl) hs_) Imm.leA (by first | exact (fun x hx => nomatch (show x ∈ ([] : List Ent) from hx)) | exact keepP_mem (by intro x hx; simp only [List.mem_cons, List.not_mem_nil, or_false] at hx; repeat' (first | (subst hx; simp [cellsL]; done) | rcases hx with hx | hx)) _) ?_
  first | refine e_float rfl rfl (fun hs_ => PF.mk rfl (v_fieldB 2 Try.underlying39 rfl rfl fz28 rfl) hs_) Imm.leA (by first | exact (fun x hx => nomatch (show x ∈ ([] : List Ent) from hx)) | exact keepP_mem (by intro x hx; simp only [List.mem_cons, List.not_mem_nil, or_false] at hx; repeat' (first | (subst hx; simp [cellsL]; done) | rcases hx with hx | hx)) _) ?_ | refine e_float rfl rfl (fun hs_ => PF.mk rfl (v_fieldI 2 Try.underlying39 rfl rfl fz28 rfl (by assumption)) hs_) Imm.leA (by first | exact (fun x hx => nomatch (show x ∈ ([] : List Ent) from hx)) | exact keepP_mem (by intro x hx; simp only [List.mem_cons, List.not_mem_nil, or_false] at hx; repeat' (first | (subst hx; simp [cellsL]; done) | rcases hx with hx | hx)) _) ?_ | refine e_float rfl rfl (fun hs_ => PF.mk rfl (v_field Try.underlying39 rfl fz28 rfl rfl) hs_) Imm.leA (by first | exact (fun x hx => nomatch (show x ∈ ([] : List Ent) from hx)) | exact keepP_mem (by intro x hx; simp only [List.mem_cons, List.not_mem_nil, or_false] at hx; repeat' (first | (subst hx; simp [cellsL]; done) | rcases hx with hx | hx)) _) ?_
  refine e_float rfl rfl (fun hs_ => PF.mk rfl (v_loadA ty28 rfl rfl) hs_) Imm.leA (by first | exact (fun x hx => nomatch (show x ∈ ([] : List Ent) from hx)) | exact keepP_mem (by intro x hx; simp only [List.mem_cons, List.not_mem_nil, or_false] at hx; repeat' (first | (subst hx; simp [cellsL]; done) | rcases hx with hx | hx)) _) ?_
  refine e_eff rfl (by intro cs b hc; cases hc) (by intro c hc; cases hc) ?_
  refine op_call pl43 rfl rfl ((own_does (hR1.mono Imm.leA))) Parts.none ?_
  rintro v24 I24 _ hI24 ⟨h24, rfl⟩
  obtain ⟨ca', cc', rfl⟩ := h24.shape
  refine ops_nil ?_
  refine e_next rfl (side_all Imm.leA (keepP_mem (by intro x hx; simp only [List.mem_cons, List.not_mem_nil, or_false] at hx; repeat' (first | (subst hx; simp [cellsL]; done) | rcases hx with hx | hx)))) ?_
  first | refine e_float rfl rfl (fun hs_ => PF.mk rfl (v_fieldB 0 Try.underlying39 rfl rfl fz27 rfl) hs_) Imm.leA (by first | exact (fun x hx => nomatch (show x ∈ ([] : List Ent) from hx)) | exact keepP_mem (by intro x hx; simp only [List.mem_cons, List.not_mem_nil, or_false] at hx; repeat' (first | (subst hx; simp [cellsL]; done) | rcases hx with hx | hx)) _) ?_ | refine e_float rfl rfl (fun hs_ => PF.mk rfl (v_fieldI 0 Try.underlying39 rfl rfl fz27 rfl (by assumption)) hs_) Imm.leA (by first | exact (fun x hx => nomatch (show x ∈ ([] : List Ent) from hx)) | exact keepP_mem (by intro x hx; simp only [List.mem_cons, List.not_mem_nil, or_false] at hx; repeat' (first | (subst hx; simp [cellsL]; done) | rcases hx with hx | hx)) _) ?_ | refine e_float rfl rfl (fun hs_ => PF.mk rfl (v_field Try.underlying39 rfl fz27 rfl rfl) hs_) Imm.leA (by first | exact (fun x hx => nomatch (show x ∈ ([] : List Ent) from hx)) | exact keepP_mem (by intro x hx; simp only [List.mem_cons, List.not_mem_nil, or_false] at hx; repeat' (first | (subst hx; simp [cellsL]; done) | rcases hx with hx | hx)) _) ?_
  refine e_eff rfl (by intro cs b hc; cases hc) (by intro c hc; cases hc) ?_
  refine op_call pl44 rfl rfl ((CloneI_does (hR2.mono Imm.leA))) Parts.none ?_
  rintro v27 I27 _ hI27 ⟨fa', fc', rfl, rfl⟩
  refine OpsJ.freezeRow Del.here ?_
  rintro I28 a28 c28 hI28 hq hc28 hl28 hcells28
  cases hq
  have h27 : RInts I28 (.slice fa' es[k].from_.length fc') es[k].from_ := RInts.of rfl hc28 hR2.len.1 hcells28 hR2.len.2
  refine ops_nil ?_
  refine e_next rfl (side_P (by kernel_rfl) Imm.leA) ?_
  refine e_eff rfl (by intro cs b hc; cases hc) (by intro c hc; cases hc) ?_
  refine o_store ty27 rfl rfl rfl rfl rfl (by repeat (first | exact Swap.here | apply Swap.there)) rfl ?_
  refine ops_nil ?_
  refine e_next_ (side_nil (by kernel_rfl)) ?_
  first | refine e_float rfl rfl (fun hs_ => PF.mk rfl (v_fieldB 2 Try.underlying39 rfl rfl fz28 rfl) hs_) Imm.leA (by first | exact (fun x hx => nomatch (show x ∈ ([] : List Ent) from hx)) | exact keepP_mem (by intro x hx; simp only [List.mem_cons, List.not_mem_nil, or_false] at hx; repeat' (first | (subst hx; simp [cellsL]; done) | rcases hx with hx | hx)) _) ?_ | refine e_float rfl rfl (fun hs_ => PF.mk rfl (v_fieldI 2 Try.underlying39 rfl rfl fz28 rfl (by assumption)) hs_) Imm.leA (by first | exact (fun x hx => nomatch (show x ∈ ([] : List Ent) from hx)) | exact keepP_mem (by intro x hx; simp only [List.mem_cons, List.not_mem_nil, or_false] at hx; repeat' (first | (subst hx; simp [cellsL]; done) | rcases hx with hx | hx)) _) ?_ | refine e_float rfl rfl (fun hs_ => PF.mk rfl (v_field Try.underlying39 rfl fz28 rfl rfl) hs_) Imm.leA (by first | exact (fun x hx => nomatch (show x ∈ ([] : List Ent) from hx)) | exact keepP_mem (by intro x hx; simp only [List.mem_cons, List.not_mem_nil, or_false] at hx; repeat' (first | (subst hx; simp [cellsL]; done) | rcases hx with hx | hx)) _) ?_
  refine e_eff rfl (by intro cs b hc; cases hc) (by intro c hc; cases hc) ?_
  refine o_store ty28 rfl rfl rfl rfl rfl (by repeat (first | exact Swap.here | apply Swap.there)) rfl ?_
  refine ops_nil ?_
  refine e_next_ (side_nil (by kernel_rfl)) ?_
  refine e_done ?_
  refine post_next ?_
  refine code_seq ?_
  refine code_region ?_
  refine op_v (v_loadA ty39 rfl rfl) rfl ?_
  refine o_store ty39 rfl rfl rfl rfl rfl (by repeat (first | exact Swap.here | apply Swap.there)) rfl ?_
  refine op_v (v_assign rfl) rfl ?_
  refine ops_nil ?_
  refine post_next ?_
  refine code_ret ?_
  refine post_ret (rs := [.cell 4 39, .tmp 5]) rfl (List.Perm.refl _) (.cons (.cell rfl ty39 (by repeat (first | exact Has.here | apply Has.there)) rfl) (.cons (.tmp rfl) .nil)) (List.Sublist.cons _ (List.Sublist.cons_cons _ (List.Sublist.cons _ (List.Sublist.refl _)))) ?_
  exact ⟨ca', cc', fa', fc', rfl, h24.mono Imm.leA, h27, rfl⟩
theorem Add1_does {I : Imm} {b4 sb c n : Nat} {A : Option Addr} {x : Int} (hn : n ≤ 1000000) :
    Does Try.prog 41 [.int .i64 x, .pointer (some ⟨b4, 0, none⟩)] I [.box b4 24 [.pointer (some ⟨sb, 0, none⟩)], .box sb 79 [.slice A n c]] (fun v _ δ' => v = .bool (!(decide (0 ≤ x ∧ x < n))) ∧ δ' = [.box b4 24 [.pointer (some ⟨sb, 0, none⟩)], .box sb 79 [.slice A n c]]) := by
  refine Does.intro Try.func41 rfl Try.ntmps41 rfl fun w0 => ?_
  refine code_seq ?_
  refine code_region ?_
  refine op_v (v_assign rfl) rfl ?_
  refine ops_nil ?_
  refine post_next ?_
  refine code_seq ?_
  refine code_region ?_
  refine op_v (v_loadA ty24 rfl rfl) rfl ?_
  refine op_v (v_move rfl) rfl ?_
  refine op_call pl42 rfl rfl ((there_does hn)) (Parts.one (Del.there Del.here)) ?_
  rintro v6 I6 _ hI6 ⟨rfl, rfl⟩
  refine op_v (v_not rfl) rfl ?_
  refine op_v (v_assign rfl) rfl ?_
  refine ops_nil ?_
  refine post_next ?_
  refine code_ret ?_
  refine post_ret (rs := [.tmp 3]) rfl ((List.Perm.swap _ _ _)) (.cons (.tmp rfl) .nil) (List.Sublist.refl _) ?_
  exact ⟨rfl, rfl⟩
def addOK (es : List En) (c : List Li) (rule : Int) (from_ : List Int) : Prop := c.length ≤ 32 ∧ asksB rule from_.length = true ∧ (∀ x ∈ from_, 0 ≤ x ∧ x < es.length) ∧ es.length < 4096
def AddH (es : List En) (c : List Li) (rule : Int) (from_ : List Int) (n e : Int) (es' : List En) : Prop :=
  (¬ addOK es c rule from_ ∧ e ≠ 0 ∧ n = 0 ∧ es' = es) ∨ (addOK es c rule from_ ∧ e = 0 ∧ n = es.length ∧ es' = es ++ [⟨c, rule, from_, 0, -1⟩])
theorem any_there {xs : List Int} {n : Nat} : (xs.any fun x => !(decide (0 ≤ x ∧ x < (n : Int)))) = true ↔ ¬ ∀ x ∈ xs, 0 ≤ x ∧ x < (n : Int) := by
  rw [List.any_eq_true]
  constructor
  · rintro ⟨x, hx, h⟩ hall
    simp at h
    have := hall x hx
    omega
  · intro h
    refine Classical.byContradiction fun hn => h fun x hx => Classical.byContradiction fun hq => hn ⟨x, hx, ?_⟩
    rw [decide_eq_false hq]; rfl
theorem SAdd_does {I : Imm} {sb c0 : Nat} {A : Option Addr} {xs : List Value} {es : List En} {vc vf : Value} {c : List Li} {from_ : List Int} {rule : Int} (hrow : RowE EntE I xs es) (hes : es.length ≤ 5000) (hc : RepC I vc c) (hf : RInts I vf from_) :
    Does Try.prog 12 [.pointer (some ⟨sb, 0, none⟩), vc, .int .i64 rule, vf] I (SE sb A c0 es.length xs) (fun v I' δ' => ∃ n e A' c' xs' es', v = .tuple #[.int .i64 n, .int .i64 e] ∧ AddH es c rule from_ n e es' ∧ RowE EntE I' xs' es' ∧ δ' = SE sb A' c' es'.length xs') := by
  obtain ⟨ca, cc, rfl⟩ := hc.shape
  obtain ⟨fa, fc, rfl⟩ := hf.shape
  have hfl := hf.len
  refine Does.intro Try.func12 rfl Try.ntmps12 rfl fun w0 => ?_
  refine code_seq ?_
  refine code_region ?_
  refine o_box rfl rfl rfl (fun b4 => ?_)
  refine op_v (v_assign rfl) rfl ?_
  refine op_v (v_assign rfl) rfl ?_
  refine ops_nil ?_
  refine post_next ?_
  refine code_seq_meet (fun σ' I' δ' => addOK es c rule from_ ∧ σ' = [(1, .slice ca c.length cc), (2, .int .i64 rule), (3, .slice fa from_.length fc), (4, .pointer (some ⟨b4, 0, none⟩))] ∧ I.le I' ∧ δ' = .box b4 24 [.pointer (some ⟨sb, 0, none⟩)] :: SE sb A c0 es.length xs) ?_ ?_
  · refine code_block ?_
    refine code_seq ?_
    refine code_region ?_
    refine op_v (v_loadA ty24 rfl rfl) rfl ?_
    refine op_v (v_ptrq (z := false) Try.underlying24 rfl rfl rfl) rfl ?_
    refine op_v (v_assign rfl) rfl ?_
    refine ops_nil ?_
    refine post_next ?_
    refine code_cond_f rfl ?_
    refine code_seq ?_
    refine code_region ?_
    refine op_v (v_move rfl) rfl ?_
    refine op_v (v_len Try.underlying27 rfl) rfl ?_
    by_cases h16 : 32 < c.length
    · first | refine op_v (v_cmptA rfl rfl rfl) rfl ?_ | refine op_v (v_cmpfA rfl rfl rfl) rfl ?_ | refine op_v (v_cmp rfl rfl rfl) rfl ?_
      refine op_v (v_assign rfl) rfl ?_
      refine ops_nil ?_
      refine post_next ?_
      refine code_cond_t rfl ?_
      refine code_seq ?_
      refine code_region ?_
      refine op_v (v_assign rfl) rfl ?_
      refine op_v (v_assign rfl) rfl ?_
      refine ops_nil ?_
      refine post_next ?_
      refine code_ret ?_
      refine post_ret_block ?_
      refine post_ret_then ?_
      refine post_ret (rs := [.tmp 8, .tmp 9]) rfl (List.Perm.refl _) (.cons (.tmp rfl) (.cons (.tmp rfl) .nil)) (List.Sublist.cons _ (List.Sublist.refl _)) ?_
      exact ⟨0, 2, A, c0, xs, es, rfl, .inl ⟨fun h => by have := h.1; omega, by decide, rfl, rfl⟩, hrow.mono Imm.leA, rfl⟩
    · first | refine op_v (v_cmptA rfl rfl rfl) rfl ?_ | refine op_v (v_cmpfA rfl rfl rfl) rfl ?_ | refine op_v (v_cmp rfl rfl rfl) rfl ?_
      refine op_v (v_assign rfl) rfl ?_
      refine ops_nil ?_
      refine post_next ?_
      refine code_cond_f rfl ?_
      refine code_seq ?_
      refine code_region ?_
      refine op_v (v_move rfl) rfl ?_
      refine op_v (v_move rfl) rfl ?_
      refine op_v (v_len Try.underlying28 rfl) rfl ?_
      by_cases h21 : asksB rule from_.length = true
      · refine op_call pl39 rfl rfl ((asks_does)) Parts.none ?_
        rintro v21 I21 _ hI21 ⟨rfl, rfl⟩
        rw [h21]
        refine op_v (v_not rfl) rfl ?_
        refine op_v (v_move rfl) rfl ?_
        first
          | (refine op_want rfl rfl ?_
             refine op_v (v_move rfl) rfl ?_)
          | (refine op_skip rfl rfl (by simp [undef]) rfl ?_)
        first
          | (refine op_want rfl rfl ?_
             refine op_v (v_makeFunc rfl rfl) rfl ?_)
          | (refine op_skip rfl rfl (by simp [undef]) rfl ?_)
        by_cases h26 : (from_.any fun x => !(decide (0 ≤ x ∧ x < (es.length : Int)))) = true
        · first
            | (refine op_want rfl rfl ?_
               refine op_call pl40 rfl rfl ((ContFI_does (hf.mono Imm.leA) (fun J x hJ => FDoes.ofFunc (args := [_]) (caps := [_]) pl41 (Add1_does (b4 := b4) (sb := sb) (c := c0) (n := es.length) (A := A) (by omega))))) (Parts.two Del.here Del.here) ?_
               rintro v26 I26 _ hI26 ⟨rfl, rfl⟩
               rw [h26])
            | (refine op_skip rfl rfl (by simp [undef]) rfl ?_)
          first | refine op_v (v_pickt rfl rfl) rfl ?_ | refine op_v (v_pickf rfl rfl) rfl ?_ | refine op_v (v_pickb rfl rfl rfl) rfl ?_
          refine op_v (v_assign rfl) rfl ?_
          refine ops_nil ?_
          refine post_next ?_
          refine code_cond_t rfl ?_
          refine code_seq ?_
          refine code_region ?_
          refine op_v (v_assign rfl) rfl ?_
          refine op_v (v_assign rfl) rfl ?_
          refine ops_nil ?_
          refine post_next ?_
          refine code_ret ?_
          refine post_ret_block ?_
          refine post_ret_then ?_
          refine post_ret (rs := [.tmp 8, .tmp 9]) rfl (List.Perm.refl _) (.cons (.tmp rfl) (.cons (.tmp rfl) .nil)) (List.Sublist.cons _ (List.Sublist.refl _)) ?_
          exact ⟨0, 1, A, c0, xs, es, rfl, .inl ⟨fun h => any_there.1 h26 h.2.2.1, by decide, rfl, rfl⟩, hrow.mono Imm.leA, rfl⟩
        · have h26' : (from_.any fun x => !(decide (0 ≤ x ∧ x < (es.length : Int)))) = false := by simpa using h26
          have hin : ∀ x ∈ from_, 0 ≤ x ∧ x < (es.length : Int) := Classical.byContradiction fun h => h26 (any_there.2 h)
          first
            | (refine op_want rfl rfl ?_
               refine op_call pl40 rfl rfl ((ContFI_does (hf.mono Imm.leA) (fun J x hJ => FDoes.ofFunc (args := [_]) (caps := [_]) pl41 (Add1_does (b4 := b4) (sb := sb) (c := c0) (n := es.length) (A := A) (by omega))))) (Parts.two Del.here Del.here) ?_
               rintro v26 I26 _ hI26 ⟨rfl, rfl⟩
               rw [h26'])
            | (refine op_skip rfl rfl (by simp [undef]) rfl ?_)
          first | refine op_v (v_pickt rfl rfl) rfl ?_ | refine op_v (v_pickf rfl rfl) rfl ?_ | refine op_v (v_pickb rfl rfl rfl) rfl ?_
          refine op_v (v_assign rfl) rfl ?_
          refine ops_nil ?_
          refine post_next ?_
          refine code_cond_f rfl ?_
          refine code_seq ?_
          refine code_region ?_
          refine op_v (v_loadA ty24 rfl rfl) rfl ?_
          refine op_v (v_nilCheck rfl) rfl ?_
          first | refine op_v (v_fieldB 0 Try.underlying79 rfl rfl fz77 rfl) rfl ?_ | refine op_v (v_fieldI 0 Try.underlying79 rfl rfl fz77 rfl (by assumption)) rfl ?_ | refine op_v (v_field Try.underlying79 rfl fz77 rfl rfl) rfl ?_
          refine op_v (v_loadA ty77 rfl rfl) rfl ?_
          refine op_v (v_len Try.underlying77 rfl) rfl ?_
          by_cases h34 : 4096 ≤ es.length
          · first | refine op_v (v_cmptA rfl rfl rfl) rfl ?_ | refine op_v (v_cmpfA rfl rfl rfl) rfl ?_ | refine op_v (v_cmp rfl rfl rfl) rfl ?_
            refine op_v (v_assign rfl) rfl ?_
            refine ops_nil ?_
            refine post_next ?_
            refine code_cond_t rfl ?_
            refine code_seq ?_
            refine code_region ?_
            refine op_v (v_assign rfl) rfl ?_
            refine op_v (v_assign rfl) rfl ?_
            refine ops_nil ?_
            refine post_next ?_
            refine code_ret ?_
            refine post_ret_block ?_
            refine post_ret_then ?_
            refine post_ret (rs := [.tmp 8, .tmp 9]) rfl (List.Perm.refl _) (.cons (.tmp rfl) (.cons (.tmp rfl) .nil)) (List.Sublist.cons _ (List.Sublist.refl _)) ?_
            exact ⟨0, 9, A, c0, xs, es, rfl, .inl ⟨fun h => by have := h.2.2.2; omega, by decide, rfl, rfl⟩, hrow.mono Imm.leA, rfl⟩
          · first | refine op_v (v_cmptA rfl rfl rfl) rfl ?_ | refine op_v (v_cmpfA rfl rfl rfl) rfl ?_ | refine op_v (v_cmp rfl rfl rfl) rfl ?_
            refine op_v (v_assign rfl) rfl ?_
            refine ops_nil ?_
            refine post_next ?_
            refine code_cond_f rfl ?_
            refine code_skip ?_
            refine post_out ?_
            exact post_meet _ ⟨⟨by omega, h21, hin, by omega⟩, rfl, Imm.leA, rfl⟩ ⟨rfl, rfl, rfl, rfl, trivial⟩
      · have h21' : asksB rule from_.length = false := by simpa using h21
        refine op_call pl39 rfl rfl ((asks_does)) Parts.none ?_
        rintro v21 I21 _ hI21 ⟨rfl, rfl⟩
        rw [h21']
        refine op_v (v_not rfl) rfl ?_
        refine op_v (v_move rfl) rfl ?_
        first
          | (refine op_want rfl rfl ?_
             refine op_v (v_move rfl) rfl ?_)
          | (refine op_skip rfl rfl (by simp [undef]) rfl ?_)
        first
          | (refine op_want rfl rfl ?_
             refine op_v (v_makeFunc rfl rfl) rfl ?_)
          | (refine op_skip rfl rfl (by simp [undef]) rfl ?_)
        first
          | (refine op_want rfl rfl ?_
             refine op_call pl40 rfl rfl ((ContFI_does (hf.mono Imm.leA) (fun J x hJ => FDoes.ofFunc (args := [_]) (caps := [_]) pl41 (Add1_does (b4 := b4) (sb := sb) (c := c0) (n := es.length) (A := A) (by omega))))) (Parts.two Del.here Del.here) ?_
             rintro v26 I26 _ hI26 ⟨rfl, rfl⟩)
          | (refine op_skip rfl rfl (by simp [undef]) rfl ?_)
        first | refine op_v (v_pickt rfl rfl) rfl ?_ | refine op_v (v_pickf rfl rfl) rfl ?_ | refine op_v (v_pickb rfl rfl rfl) rfl ?_
        refine op_v (v_assign rfl) rfl ?_
        refine ops_nil ?_
        refine post_next ?_
        refine code_cond_t rfl ?_
        refine code_seq ?_
        refine code_region ?_
        refine op_v (v_assign rfl) rfl ?_
        refine op_v (v_assign rfl) rfl ?_
        refine ops_nil ?_
        refine post_next ?_
        refine code_ret ?_
        refine post_ret_block ?_
        refine post_ret_then ?_
        refine post_ret (rs := [.tmp 8, .tmp 9]) rfl (List.Perm.refl _) (.cons (.tmp rfl) (.cons (.tmp rfl) .nil)) (List.Sublist.cons _ (List.Sublist.refl _)) ?_
        exact ⟨0, 1, A, c0, xs, es, rfl, .inl ⟨fun h => h21 h.2.1, by decide, rfl, rfl⟩, hrow.mono Imm.leA, rfl⟩
  · rintro _ I2 _ ⟨hok, rfl, hI2, rfl⟩
    have hlt4 := hok.2.2.2
    refine code_seq ?_
    refine code_draw (.fl 0 (.fl 1 (.fl 2 (.fl 3 (.fl 4 (.fl 5 (.fl 7 (.fl 8 (.ef 6 (.ef 9 (.fl 10 (.ef 11 (.ef 12 (.fl 13 (.fl 14 (.ef 15 .done)))))))))))))))) (keepP [0, 1, 4] [.box b4 24 [.pointer (some ⟨sb, 0, none⟩)], .box sb 79 [.slice A es.length c0]]) mixed (by kernel_rfl) (by kernel_rfl) (keepP_sub (List.Sublist.cons_cons _ (List.Sublist.cons_cons _ (List.nil_sublist _)))) ?_
    refine e_float rfl rfl (fun hs_ => PF.mk rfl (v_loadA ty24 rfl rfl) hs_) Imm.leA (by first | exact (fun x hx => nomatch (show x ∈ ([] : List Ent) from hx)) | exact keepP_mem (by intro x hx; simp only [List.mem_cons, List.not_mem_nil, or_false] at hx; repeat' (first | (subst hx; simp [cellsL]; done) | rcases hx with hx | hx)) _) ?_
    refine e_float rfl rfl (fun hs_ => PF.mk rfl (v_loadA ty24 rfl rfl) hs_) Imm.leA (by first | exact (fun x hx => nomatch (show x ∈ ([] : List Ent) from hx)) | exact keepP_mem (by intro x hx; simp only [List.mem_cons, List.not_mem_nil, or_false] at hx; repeat' (first | (subst hx; simp [cellsL]; done) | rcases hx with hx | hx)) _) ?_
    refine e_float rfl rfl (fun hs_ => PF.mk rfl (v_nilCheck rfl) hs_) Imm.leA (by first | exact (fun x hx => nomatch (show x ∈ ([] : List Ent) from hx)) | exact keepP_mem (by intro x hx; simp only [List.mem_cons, List.not_mem_nil, or_false] at hx; repeat' (first | (subst hx; simp [cellsL]; done) | rcases hx with hx | hx)) _) ?_
    first | refine e_float rfl rfl (fun hs_ => PF.mk rfl (v_fieldB 0 Try.underlying79 rfl rfl fz77 rfl) hs_) Imm.leA (by first | exact (fun x hx => nomatch (show x ∈ ([] : List Ent) from hx)) | exact keepP_mem (by intro x hx; simp only [List.mem_cons, List.not_mem_nil, or_false] at hx; repeat' (first | (subst hx; simp [cellsL]; done) | rcases hx with hx | hx)) _) ?_ | refine e_float rfl rfl (fun hs_ => PF.mk rfl (v_fieldI 0 Try.underlying79 rfl rfl fz77 rfl (by assumption)) hs_) Imm.leA (by first | exact (fun x hx => nomatch (show x ∈ ([] : List Ent) from hx)) | exact keepP_mem (by intro x hx; simp only [List.mem_cons, List.not_mem_nil, or_false] at hx; repeat' (first | (subst hx; simp [cellsL]; done) | rcases hx with hx | hx)) _) ?_ | refine e_float rfl rfl (fun hs_ => PF.mk rfl (v_field Try.underlying79 rfl fz77 rfl rfl) hs_) Imm.leA (by first | exact (fun x hx => nomatch (show x ∈ ([] : List Ent) from hx)) | exact keepP_mem (by intro x hx; simp only [List.mem_cons, List.not_mem_nil, or_false] at hx; repeat' (first | (subst hx; simp [cellsL]; done) | rcases hx with hx | hx)) _) ?_
    refine e_float rfl rfl (fun hs_ => PF.mk rfl (v_loadA ty77 rfl rfl) hs_) Imm.leA (by first | exact (fun x hx => nomatch (show x ∈ ([] : List Ent) from hx)) | exact keepP_mem (by intro x hx; simp only [List.mem_cons, List.not_mem_nil, or_false] at hx; repeat' (first | (subst hx; simp [cellsL]; done) | rcases hx with hx | hx)) _) ?_
    refine e_float rfl rfl (fun hs_ => PF.mk rfl (v_move rfl) hs_) Imm.leA (by first | exact (fun x hx => nomatch (show x ∈ ([] : List Ent) from hx)) | exact keepP_mem (by intro x hx; simp only [List.mem_cons, List.not_mem_nil, or_false] at hx; repeat' (first | (subst hx; simp [cellsL]; done) | rcases hx with hx | hx)) _) ?_
    refine e_float rfl rfl (fun hs_ => PF.mk rfl (v_move rfl) hs_) Imm.leA (by first | exact (fun x hx => nomatch (show x ∈ ([] : List Ent) from hx)) | exact keepP_mem (by intro x hx; simp only [List.mem_cons, List.not_mem_nil, or_false] at hx; repeat' (first | (subst hx; simp [cellsL]; done) | rcases hx with hx | hx)) _) ?_
    refine e_float rfl rfl (fun hs_ => PF.mk rfl (v_move rfl) hs_) Imm.leA (by first | exact (fun x hx => nomatch (show x ∈ ([] : List Ent) from hx)) | exact keepP_mem (by intro x hx; simp only [List.mem_cons, List.not_mem_nil, or_false] at hx; repeat' (first | (subst hx; simp [cellsL]; done) | rcases hx with hx | hx)) _) ?_
    refine e_eff rfl (by intro cs b hc; cases hc) (by intro c hc; cases hc) ?_
    refine op_call pl43 rfl rfl ((own_does (hc.mono Imm.leA))) Parts.none ?_
    rintro v41 I41 _ hI41 ⟨h41, rfl⟩
    obtain ⟨ca', cc', rfl⟩ := h41.shape
    refine ops_nil ?_
    refine e_next rfl (side_all Imm.leA (keepP_mem (by intro x hx; simp only [List.mem_cons, List.not_mem_nil, or_false] at hx; repeat' (first | (subst hx; simp [cellsL]; done) | rcases hx with hx | hx)))) ?_
    refine e_eff rfl (by intro cs b hc; cases hc) (by intro c hc; cases hc) ?_
    refine op_call pl44 rfl rfl ((CloneI_does (hf.mono Imm.leA))) Parts.none ?_
    rintro v44 I44 _ hI44 ⟨fa', fc', rfl, rfl⟩
    refine OpsJ.freezeRow Del.here ?_
    rintro I45 a45 c45 hI45 hq hc45 hl45 hcells45
    cases hq
    have h44 : RInts I45 (.slice fa' from_.length fc') from_ := RInts.of rfl hc45 hfl.1 hcells45 hfl.2
    refine ops_nil ?_
    refine e_next rfl (side_all Imm.leA (keepP_mem (by intro x hx; simp only [List.mem_cons, List.not_mem_nil, or_false] at hx; repeat' (first | (subst hx; simp [cellsL]; done) | rcases hx with hx | hx)))) ?_
    refine e_float rfl rfl (fun hs_ => PF.mk rfl (v_build bl39 rfl rfl) hs_) Imm.leA (by first | exact (fun x hx => nomatch (show x ∈ ([] : List Ent) from hx)) | exact keepP_mem (by intro x hx; simp only [List.mem_cons, List.not_mem_nil, or_false] at hx; repeat' (first | (subst hx; simp [cellsL]; done) | rcases hx with hx | hx)) _) ?_
    refine e_eff rfl (by intro cs b hc; cases hc) (by intro c hc; cases hc) ?_
    refine o_buildSlice (xs := [(Go.Operand.tmp 45)]) Try.underlying77 bs39 rfl rfl rfl rfl rfl (fun b46 => ?_)
    refine ops_nil ?_
    refine e_next rfl (side_all Imm.leA (keepP_mem (by intro x hx; simp only [List.mem_cons, List.not_mem_nil, or_false] at hx; repeat' (first | (subst hx; simp [cellsL]; done) | rcases hx with hx | hx)))) ?_
    refine e_eff rfl (by intro cs b hc; cases hc) (by intro c hc; cases hc) ?_
    refine o_append Try.underlying77 bs39 rfl rfl rfl (fun v' => by repeat (first | exact Swap.here | apply Swap.there)) (Src.ofRow (by repeat (first | exact Has.here | apply Has.there)) rfl) (by first | rfl | omega | simp) (by simp [cat, cellsL, Value.oneCell']) (by omega) (by omega) (fun a47 c47 => ?_)
    refine ops_nil ?_
    refine e_next rfl (side_all Imm.leA (keepP_mem (by intro x hx; simp only [List.mem_cons, List.not_mem_nil, or_false] at hx; repeat' (first | (subst hx; simp [cellsL]; done) | rcases hx with hx | hx)))) ?_
    refine e_float rfl rfl (fun hs_ => PF.mk rfl (v_nilCheck rfl) hs_) Imm.leA (by first | exact (fun x hx => nomatch (show x ∈ ([] : List Ent) from hx)) | exact keepP_mem (by intro x hx; simp only [List.mem_cons, List.not_mem_nil, or_false] at hx; repeat' (first | (subst hx; simp [cellsL]; done) | rcases hx with hx | hx)) _) ?_
    first | refine e_float rfl rfl (fun hs_ => PF.mk rfl (v_fieldB 0 Try.underlying79 rfl rfl fz77 rfl) hs_) Imm.leA (by first | exact (fun x hx => nomatch (show x ∈ ([] : List Ent) from hx)) | exact keepP_mem (by intro x hx; simp only [List.mem_cons, List.not_mem_nil, or_false] at hx; repeat' (first | (subst hx; simp [cellsL]; done) | rcases hx with hx | hx)) _) ?_ | refine e_float rfl rfl (fun hs_ => PF.mk rfl (v_fieldI 0 Try.underlying79 rfl rfl fz77 rfl (by assumption)) hs_) Imm.leA (by first | exact (fun x hx => nomatch (show x ∈ ([] : List Ent) from hx)) | exact keepP_mem (by intro x hx; simp only [List.mem_cons, List.not_mem_nil, or_false] at hx; repeat' (first | (subst hx; simp [cellsL]; done) | rcases hx with hx | hx)) _) ?_ | refine e_float rfl rfl (fun hs_ => PF.mk rfl (v_field Try.underlying79 rfl fz77 rfl rfl) hs_) Imm.leA (by first | exact (fun x hx => nomatch (show x ∈ ([] : List Ent) from hx)) | exact keepP_mem (by intro x hx; simp only [List.mem_cons, List.not_mem_nil, or_false] at hx; repeat' (first | (subst hx; simp [cellsL]; done) | rcases hx with hx | hx)) _) ?_
    refine e_eff rfl (by intro cs b hc; cases hc) (by intro c hc; cases hc) ?_
    refine o_store ty77 rfl rfl rfl rfl rfl (by repeat (first | exact Swap.here | apply Swap.there)) rfl ?_
    refine ops_nil ?_
    refine e_next_ (side_P (by kernel_rfl) Imm.leA) ?_
    refine e_done ?_
    refine post_next ?_
    refine code_seq ?_
    refine code_region ?_
    refine op_v (v_loadA ty24 rfl rfl) rfl ?_
    refine op_v (v_nilCheck rfl) rfl ?_
    first | refine op_v (v_fieldB 0 Try.underlying79 rfl rfl fz77 rfl) rfl ?_ | refine op_v (v_fieldI 0 Try.underlying79 rfl rfl fz77 rfl (by assumption)) rfl ?_ | refine op_v (v_field Try.underlying79 rfl fz77 rfl rfl) rfl ?_
    refine op_v (v_loadA ty77 rfl rfl) rfl ?_
    refine op_v (v_len Try.underlying77 rfl) rfl ?_
    refine OpsJ.view (View.drop Del.here) ?_
    refine op_v (v_subb (c := ((es.length : Nat) : Int)) rfl rfl (by omega) (by omega)) rfl ?_
    refine op_v (v_assign rfl) rfl ?_
    refine op_v (v_assign rfl) rfl ?_
    refine ops_nil ?_
    refine post_next ?_
    refine code_ret ?_
    refine post_ret (rs := [.tmp 8, .tmp 9]) rfl (List.Perm.refl _) (.cons (.tmp rfl) (.cons (.tmp rfl) .nil)) (List.Sublist.cons _ (List.Sublist.refl _)) ?_
    refine ⟨es.length, 0, a47, c47, xs ++ [.slice ca' c.length cc', .int .i64 rule, .slice fa' from_.length fc', .int .i64 0, .int .i64 (-1)], es ++ [⟨c, rule, from_, 0, -1⟩], rfl, .inr ⟨hok, rfl, rfl, rfl⟩, (hrow.mono Imm.leA).app (RowE.single ⟨ca', cc', fa', fc', rfl, h41.mono Imm.leA, h44.mono Imm.leA⟩), ?_⟩
    simp [SE, cat, cellsL]
end Go.Proofs.Ythbcdffldcdfoaa
/- Walks: nil stores; the example of the chapter on stores. -/
set_option linter.unusedVariables false
set_option linter.unusedSimpArgs false
set_option linter.unnecessarySimpa false
/- short -/
namespace Go.Proofs.Ythbcdffldcdfoaa
open Go Lg

theorem AddH.ok {es es' : List En} {c : List Li} {rule n e : Int} {from_ : List Int} (h : AddH es c rule from_ n e es') (hok : addOK es c rule from_) : n = es.length ∧ e = 0 ∧ es' = es ++ [⟨c, rule, from_, 0, -1⟩] := by
  rcases h with ⟨h, _⟩ | ⟨_, h1, h2, h3⟩
  · exact absurd hok h
  · exact ⟨h2, h1, h3⟩
theorem MoveH.ok {es es' : List En} {id state why e : Int} (h : MoveH es id state why e es') (k : Nat) (hk : k < es.length) (hid : id = k) (hok : moveOK es k hk state why) : e = 0 ∧ es' = es.set k { es[k] with st := state, why := why } := by
  rcases h with ⟨_, _, h⟩ | ⟨h1, k', hk', h2, h3, h4⟩
  · exact absurd hok (h k hk hid)
  · have : k' = k := by omega
    subst this; exact ⟨h1, h4⟩
theorem repT_zero (I : Imm) : RepT I (.agg #[.int .i64 zeroT.head, .slice none zeroT.args.length 0]) zeroT := RepT.mk _ zeroT (by unfold InR; decide) (RepS.nil I)
theorem repC_nil (I : Imm) : RepC I (.slice none 0 0) [] := RepE.nil
def e3 : List En := [⟨[], 0, [], 0, -1⟩, ⟨[zeroLi], 0, [], 3, 2⟩, ⟨[], 3, [0, 1], 0, -1⟩]
theorem e3_live : idsT isLv e3 e3.length = [0, 2] := by decide
theorem e3_child : idsT (hasCh 0) e3 e3.length = [2] := by decide
theorem awake19_does (I : Imm) :
    Does Try.prog 21 [] I [] (fun v I' δ' => v = .bool true ∧ δ' = []) := by
  refine Does.intro Try.func21 rfl Try.ntmps21 rfl fun w0 => ?_
  refine code_seq ?_
  refine code_region ?_
  refine op_v (v_assign rfl) rfl ?_
  refine ops_nil ?_
  refine post_next ?_
  refine code_seq ?_
  refine code_region ?_
  refine op_call pl11 rfl rfl ((SNew_does _)) Parts.none ?_
  rintro v11 I11 _ hI11 ⟨sb, rfl, rfl⟩
  refine op_v (v_assign rfl) rfl ?_
  refine ops_nil ?_
  refine post_next ?_
  refine code_seq ?_
  refine code_seq ?_
  refine code_region ?_
  refine op_v (v_move rfl) rfl ?_
  refine op_v (v_ptrq (z := false) Try.underlying24 rfl rfl rfl) rfl ?_
  refine ops_nil ?_
  refine post_next ?_
  refine code_cond_f rfl ?_
  refine code_skip ?_
  refine post_next ?_
  refine code_seq ?_
  refine code_region ?_
  refine op_v (v_move rfl) rfl ?_
  refine op_call pl12 rfl rfl ((SAdd_does (es := []) RowE.nil (by decide) (repC_nil _) (RInts.nil _))) Parts.all ?_
  rintro v16 I16 _ hI16 ⟨n16, f16, A16, c16, xs16, es16, rfl, ha16, hr16, rfl⟩
  rw [List.append_nil]
  obtain ⟨rfl, rfl, rfl⟩ := ha16.ok ⟨by decide, by decide, by simp, by decide⟩
  refine op_v (v_move rfl) rfl ?_
  refine op_v (v_extract rfl rfl) rfl ?_
  refine op_v (v_extract rfl rfl) rfl ?_
  refine op_v (v_assign rfl) rfl ?_
  refine op_v (v_assign rfl) rfl ?_
  refine ops_nil ?_
  refine post_next ?_
  refine code_seq ?_
  refine code_region ?_
  refine op_v (v_move rfl) rfl ?_
  refine o_makeSlice (z := .agg #[.bool false, .int .i64 0, .slice none 0 0, .int .i64 0, .slice none 0 0]) (size := 5) (bytes := 72) (n := 1) (xs := [.bool false, .int .i64 0, .slice none 0 0, .int .i64 0, .slice none 0 0]) Try.underlying27 (by kernel_rfl) rfl rfl rfl (by omega) (by omega) (by kernel_rfl) (fun g21 => ?_)
  refine OpsJ.freezeRow Del.here ?_
  rintro I21 a21 c21 hI21 hq hc21 hl21 hcells21
  cases hq
  have hrc : RepC I21 (.slice (some ⟨g21, 0, none⟩) 1 1) [zeroLi] := ⟨_, _, _, rfl, hc21, by decide, hcells21, RowE.single ⟨none, 0, none, 0, rfl, repT_zero _, repT_zero _⟩⟩
  refine op_call pl12 rfl rfl ((SAdd_does (hr16.mono Imm.leA) (by decide) hrc (RInts.nil _))) Parts.all ?_
  rintro v22 I22 _ hI22 ⟨n22, f22, A22, c22, xs22, es22, rfl, ha22, hr22, rfl⟩
  rw [List.append_nil]
  obtain ⟨rfl, rfl, rfl⟩ := ha22.ok ⟨by decide, by decide, by simp, by decide⟩
  refine op_v (v_move rfl) rfl ?_
  refine op_v (v_extract rfl rfl) rfl ?_
  refine op_v (v_extract rfl rfl) rfl ?_
  refine op_v (v_assign rfl) rfl ?_
  refine op_v (v_assign rfl) rfl ?_
  refine ops_nil ?_
  refine post_next ?_
  refine code_seq ?_
  refine code_region ?_
  refine op_v (v_move rfl) rfl ?_
  refine op_v (v_move rfl) rfl ?_
  refine op_v (v_move rfl) rfl ?_
  refine o_buildSlice (xs := [(Go.Operand.tmp 27), (Go.Operand.tmp 28)]) Try.underlying28 bs3 rfl rfl rfl rfl rfl (fun b29 => ?_)
  refine OpsJ.freezeRow Del.here ?_
  rintro I29 a29 c29 hI29 hq hc29 hl29 hcells29
  cases hq
  have hri : RInts I29 (.slice (some ⟨b29, 0, none⟩) 2 2) [0, 1] := RInts.of rfl hc29 (by decide) hcells29 (small_in (by decide))
  refine op_call pl12 rfl rfl ((SAdd_does (hr22.mono Imm.leA) (by decide) (repC_nil _) hri)) Parts.all ?_
  rintro v30 I30 _ hI30 ⟨n30, f30, A30, c30, xs30, es30, rfl, ha30, hr30, rfl⟩
  rw [List.append_nil]
  obtain ⟨rfl, rfl, rfl⟩ := ha30.ok ⟨by decide, by decide, by decide, by decide⟩
  refine op_v (v_move rfl) rfl ?_
  refine op_v (v_extract rfl rfl) rfl ?_
  refine op_v (v_extract rfl rfl) rfl ?_
  refine op_v (v_assign rfl) rfl ?_
  refine op_v (v_assign rfl) rfl ?_
  refine ops_nil ?_
  refine post_next ?_
  refine code_seq ?_
  refine code_region ?_
  refine op_v (v_move rfl) rfl ?_
  refine op_v (v_move rfl) rfl ?_
  refine op_v (v_move rfl) rfl ?_
  refine op_call pl13 rfl rfl ((SMove_does hr30 (by decide) (by decide))) Parts.all ?_
  rintro v36 I36 _ hI36 ⟨f36, xs36, es36, rfl, hm36, hr36, rfl⟩
  rw [List.append_nil]
  obtain ⟨rfl, he36⟩ := hm36.ok 1 (by decide) (by decide) ⟨by decide, by decide⟩
  obtain rfl : es36 = e3 := he36
  refine op_v (v_assign rfl) rfl ?_
  refine ops_nil ?_
  refine post_next ?_
  refine code_seq ?_
  refine code_region ?_
  refine op_v (v_move rfl) rfl ?_
  refine op_v (v_move rfl) rfl ?_
  refine op_call pl17 rfl rfl ((SGet_does (es := e3) (k := 1) hr36 (by decide) (by decide))) Parts.all ?_
  rintro v40 I40 _ hI40 ⟨ca40, cc40, fa40, fc40, rfl, hrc40, hri40, rfl⟩
  rw [List.append_nil]
  refine op_v (v_move rfl) rfl ?_
  refine op_v (v_extract rfl rfl) rfl ?_
  refine op_v (v_extract rfl rfl) rfl ?_
  refine o_alloc z39 rfl rfl (fun b9 => ?_)
  refine o_store ty39 rfl rfl rfl rfl rfl (by repeat (first | exact Swap.here | apply Swap.there)) rfl ?_
  refine op_v (v_assign rfl) rfl ?_
  refine ops_nil ?_
  refine post_next ?_
  refine code_seq ?_
  refine code_region ?_
  refine op_v (v_move rfl) rfl ?_
  first | refine op_v (v_cmptA rfl rfl rfl) rfl ?_ | refine op_v (v_cmpfA rfl rfl rfl) rfl ?_ | refine op_v (v_cmp rfl rfl rfl) rfl ?_
  refine op_v (v_move rfl) rfl ?_
  first
    | (refine op_want rfl rfl ?_
       refine op_v (v_move rfl) rfl ?_)
    | (refine op_skip rfl rfl (by simp [undef]) rfl ?_)
  first
    | (refine op_want rfl rfl ?_
       refine op_v (v_move rfl) rfl ?_)
    | (refine op_skip rfl rfl (by simp [undef]) rfl ?_)
  first
    | (refine op_want rfl rfl ?_
       first | refine op_v (v_cmptA rfl rfl rfl) rfl ?_ | refine op_v (v_cmpfA rfl rfl rfl) rfl ?_ | refine op_v (v_cmp rfl rfl rfl) rfl ?_)
    | (refine op_skip rfl rfl (by simp [undef]) rfl ?_)
  first | refine op_v (v_pickt rfl rfl) rfl ?_ | refine op_v (v_pickf rfl rfl) rfl ?_ | refine op_v (v_pickb rfl rfl rfl) rfl ?_
  refine op_v (v_move rfl) rfl ?_
  first
    | (refine op_want rfl rfl ?_
       refine op_v (v_move rfl) rfl ?_)
    | (refine op_skip rfl rfl (by simp [undef]) rfl ?_)
  first
    | (refine op_want rfl rfl ?_
       refine op_v (v_move rfl) rfl ?_)
    | (refine op_skip rfl rfl (by simp [undef]) rfl ?_)
  first
    | (refine op_want rfl rfl ?_
       first | refine op_v (v_cmptA rfl rfl rfl) rfl ?_ | refine op_v (v_cmpfA rfl rfl rfl) rfl ?_ | refine op_v (v_cmp rfl rfl rfl) rfl ?_)
    | (refine op_skip rfl rfl (by simp [undef]) rfl ?_)
  first | refine op_v (v_pickt rfl rfl) rfl ?_ | refine op_v (v_pickf rfl rfl) rfl ?_ | refine op_v (v_pickb rfl rfl rfl) rfl ?_
  refine op_v (v_move rfl) rfl ?_
  first
    | (refine op_want rfl rfl ?_
       refine op_v (v_move rfl) rfl ?_)
    | (refine op_skip rfl rfl (by simp [undef]) rfl ?_)
  first
    | (refine op_want rfl rfl ?_
       refine op_v (v_move rfl) rfl ?_)
    | (refine op_skip rfl rfl (by simp [undef]) rfl ?_)
  first
    | (refine op_want rfl rfl ?_
       first | refine op_v (v_cmptA rfl rfl rfl) rfl ?_ | refine op_v (v_cmpfA rfl rfl rfl) rfl ?_ | refine op_v (v_cmp rfl rfl rfl) rfl ?_)
    | (refine op_skip rfl rfl (by simp [undef]) rfl ?_)
  first | refine op_v (v_pickt rfl rfl) rfl ?_ | refine op_v (v_pickf rfl rfl) rfl ?_ | refine op_v (v_pickb rfl rfl rfl) rfl ?_
  refine op_v (v_move rfl) rfl ?_
  first
    | (refine op_want rfl rfl ?_
       refine op_v (v_move rfl) rfl ?_)
    | (refine op_skip rfl rfl (by simp [undef]) rfl ?_)
  first
    | (refine op_want rfl rfl ?_
       refine op_v (v_move rfl) rfl ?_)
    | (refine op_skip rfl rfl (by simp [undef]) rfl ?_)
  first
    | (refine op_want rfl rfl ?_
       first | refine op_v (v_cmptA rfl rfl rfl) rfl ?_ | refine op_v (v_cmpfA rfl rfl rfl) rfl ?_ | refine op_v (v_cmp rfl rfl rfl) rfl ?_)
    | (refine op_skip rfl rfl (by simp [undef]) rfl ?_)
  first | refine op_v (v_pickt rfl rfl) rfl ?_ | refine op_v (v_pickf rfl rfl) rfl ?_ | refine op_v (v_pickb rfl rfl rfl) rfl ?_
  refine op_v (v_move rfl) rfl ?_
  first
    | (refine op_want rfl rfl ?_
       refine op_v (v_move rfl) rfl ?_)
    | (refine op_skip rfl rfl (by simp [undef]) rfl ?_)
  first
    | (refine op_want rfl rfl ?_
       first | refine op_v (v_cmptA rfl rfl rfl) rfl ?_ | refine op_v (v_cmpfA rfl rfl rfl) rfl ?_ | refine op_v (v_cmp rfl rfl rfl) rfl ?_)
    | (refine op_skip rfl rfl (by simp [undef]) rfl ?_)
  first | refine op_v (v_pickt rfl rfl) rfl ?_ | refine op_v (v_pickf rfl rfl) rfl ?_ | refine op_v (v_pickb rfl rfl rfl) rfl ?_
  refine op_v (v_move rfl) rfl ?_
  first
    | (refine op_want rfl rfl ?_
       first | refine op_v (v_fieldB 3 Try.underlying39 rfl rfl fz3 rfl) rfl ?_ | refine op_v (v_fieldI 3 Try.underlying39 rfl rfl fz3 rfl (by assumption)) rfl ?_ | refine op_v (v_field Try.underlying39 rfl fz3 rfl rfl) rfl ?_)
    | (refine op_skip rfl rfl (by simp [undef]) rfl ?_)
  first
    | (refine op_want rfl rfl ?_
       refine op_v (v_loadA ty3 rfl rfl) rfl ?_)
    | (refine op_skip rfl rfl (by simp [undef]) rfl ?_)
  first
    | (refine op_want rfl rfl ?_
       first | refine op_v (v_cmptA rfl rfl rfl) rfl ?_ | refine op_v (v_cmpfA rfl rfl rfl) rfl ?_ | refine op_v (v_cmp rfl rfl rfl) rfl ?_)
    | (refine op_skip rfl rfl (by simp [undef]) rfl ?_)
  first | refine op_v (v_pickt rfl rfl) rfl ?_ | refine op_v (v_pickf rfl rfl) rfl ?_ | refine op_v (v_pickb rfl rfl rfl) rfl ?_
  refine op_v (v_move rfl) rfl ?_
  first
    | (refine op_want rfl rfl ?_
       first | refine op_v (v_fieldB 4 Try.underlying39 rfl rfl fz3 rfl) rfl ?_ | refine op_v (v_fieldI 4 Try.underlying39 rfl rfl fz3 rfl (by assumption)) rfl ?_ | refine op_v (v_field Try.underlying39 rfl fz3 rfl rfl) rfl ?_)
    | (refine op_skip rfl rfl (by simp [undef]) rfl ?_)
  first
    | (refine op_want rfl rfl ?_
       refine op_v (v_loadA ty3 rfl rfl) rfl ?_)
    | (refine op_skip rfl rfl (by simp [undef]) rfl ?_)
  first
    | (refine op_want rfl rfl ?_
       first | refine op_v (v_cmptA rfl rfl rfl) rfl ?_ | refine op_v (v_cmpfA rfl rfl rfl) rfl ?_ | refine op_v (v_cmp rfl rfl rfl) rfl ?_)
    | (refine op_skip rfl rfl (by simp [undef]) rfl ?_)
  first | refine op_v (v_pickt rfl rfl) rfl ?_ | refine op_v (v_pickf rfl rfl) rfl ?_ | refine op_v (v_pickb rfl rfl rfl) rfl ?_
  refine op_v (v_move rfl) rfl ?_
  first
    | (refine op_want rfl rfl ?_
       refine op_v (v_move rfl) rfl ?_)
    | (refine op_skip rfl rfl (by simp [undef]) rfl ?_)
  first
    | (refine op_want rfl rfl ?_
       refine op_call pl16 rfl rfl ((SLive_does (es := e3) (hr36.mono Imm.leA) (by decide))) (List.perm_append_comm (l₁ := [_])) ?_
       rintro v81 I81 _ hI81 ⟨hl81, rfl⟩
       refine OpsJ.view (View.perm (List.perm_append_comm (l₂ := [_]))) ?_
       rw [e3_live] at hl81)
    | (refine op_skip rfl rfl (by simp [undef]) rfl ?_)
  first
    | (refine op_want rfl rfl ?_
       refine o_buildSlice (xs := [(Go.Operand.const (Go.Value.int Go.IntKind.i64 0)), (Go.Operand.const (Go.Value.int Go.IntKind.i64 2))]) Try.underlying28 bs3 rfl rfl rfl rfl rfl (fun b82 => ?_)
       refine OpsJ.freezeRow Del.here ?_
       rintro I82 a82 c82 hI82 hq hc82 hl82 hcells82
       cases hq
       have hri82 : RInts I82 (.slice (some ⟨b82, 0, none⟩) 2 2) [0, 2] := RInts.of rfl hc82 (by decide) hcells82 (small_in (by decide)))
    | (refine op_skip rfl rfl (by simp [undef]) rfl ?_)
  first
    | (refine op_want rfl rfl ?_
       refine op_call pl51 rfl rfl ((Ints_does _ (hl81.mono Imm.leA) hri82)) Parts.none ?_
       rintro v83 I83 _ hI83 ⟨rfl, rfl⟩)
    | (refine op_skip rfl rfl (by simp [undef]) rfl ?_)
  first | refine op_v (v_pickt rfl rfl) rfl ?_ | refine op_v (v_pickf rfl rfl) rfl ?_ | refine op_v (v_pickb rfl rfl rfl) rfl ?_
  refine op_v (v_move rfl) rfl ?_
  first
    | (refine op_want rfl rfl ?_
       refine op_v (v_move rfl) rfl ?_)
    | (refine op_skip rfl rfl (by simp [undef]) rfl ?_)
  first
    | (refine op_want rfl rfl ?_
       refine op_call pl20 rfl rfl ((SChild_does (es := e3) (id := 0) (hr36.mono Imm.leA) (by decide))) (List.perm_append_comm (l₁ := [_])) ?_
       rintro v87 I87 _ hI87 ⟨hl87, rfl⟩
       refine OpsJ.view (View.perm (List.perm_append_comm (l₂ := [_]))) ?_
       rw [e3_child] at hl87)
    | (refine op_skip rfl rfl (by simp [undef]) rfl ?_)
  first
    | (refine op_want rfl rfl ?_
       refine o_buildSlice (xs := [(Go.Operand.const (Go.Value.int Go.IntKind.i64 2))]) Try.underlying28 bs3 rfl rfl rfl rfl rfl (fun b88 => ?_)
       refine OpsJ.freezeRow Del.here ?_
       rintro I88 a88 c88 hI88 hq hc88 hl88 hcells88
       cases hq
       have hri88 : RInts I88 (.slice (some ⟨b88, 0, none⟩) 1 1) [2] := RInts.of rfl hc88 (by decide) hcells88 (small_in (by decide)))
    | (refine op_skip rfl rfl (by simp [undef]) rfl ?_)
  first
    | (refine op_want rfl rfl ?_
       refine op_call pl51 rfl rfl ((Ints_does _ (hl87.mono Imm.leA) hri88)) Parts.none ?_
       rintro v89 I89 _ hI89 ⟨rfl, rfl⟩)
    | (refine op_skip rfl rfl (by simp [undef]) rfl ?_)
  first | refine op_v (v_pickt rfl rfl) rfl ?_ | refine op_v (v_pickf rfl rfl) rfl ?_ | refine op_v (v_pickb rfl rfl rfl) rfl ?_
  refine op_v (v_move rfl) rfl ?_
  first
    | (refine op_want rfl rfl ?_
       refine op_v (v_move rfl) rfl ?_)
    | (refine op_skip rfl rfl (by simp [undef]) rfl ?_)
  first
    | (refine op_want rfl rfl ?_
       refine op_call pl15 rfl rfl ((SSize_does)) (List.perm_append_comm (l₁ := [_])) ?_
       rintro v93 I93 _ hI93 ⟨rfl, rfl⟩)
    | (refine op_skip rfl rfl (by simp [undef]) rfl ?_)
  first
    | (refine op_want rfl rfl ?_
       first | refine op_v (v_cmptA rfl rfl rfl) rfl ?_ | refine op_v (v_cmpfA rfl rfl rfl) rfl ?_ | refine op_v (v_cmp rfl rfl rfl) rfl ?_)
    | (refine op_skip rfl rfl (by simp [undef]) rfl ?_)
  first | refine op_v (v_pickt rfl rfl) rfl ?_ | refine op_v (v_pickf rfl rfl) rfl ?_ | refine op_v (v_pickb rfl rfl rfl) rfl ?_
  refine op_v (v_assign rfl) rfl ?_
  refine ops_nil ?_
  refine post_next ?_
  refine code_ret ?_
  refine post_ret (rs := [.tmp 0]) rfl (List.Perm.refl _) (.cons (.tmp rfl) .nil) (List.nil_sublist _) ?_
  exact ⟨rfl, rfl⟩
end Go.Proofs.Ythbcdffldcdfoaa
