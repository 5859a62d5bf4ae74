/- Walks: behind each script each entry of a store is just one thing: the statement. -/
import Derived.Test.YthbcdffldcdfoaaZ3
set_option linter.unusedVariables false
set_option linter.unusedSimpArgs false
set_option linter.unnecessarySimpa false
/- short -/
namespace Go.Proofs.Ythbcdffldcdfoaa
open Go Lg

abbrev bRow (g N : Nat) (ds : List Bool) : Ent := .row (.slice (some ⟨g, 0, none⟩) N N) 4 1 N (ds.map Value.bool)
def DeadI (es : List En) (ds : List Bool) (id : Nat) : Prop := ∀ (j : Nat) (h : j < ds.length), (∀ h' : j < es.length, (j < id → ds[j] = !(aliveB es[j].st)) ∧ (id ≤ j → ds[j] = true → aliveB es[j].st = false)) ∧ (es.length ≤ j → ds[j] = false)
theorem DeadI.died {es es' : List En} {ds : List Bool} (h : DeadI es ds es.length) (hd : Died es es') : DeadI es' ds 0 := fun j hj => by
  refine ⟨fun h' => ⟨fun q => absurd q (by omega), fun _ hq => ?_⟩, fun h' => (h j hj).2 (by have := hd.1; omega)⟩
  by_cases e : j < es.length
  · have := ((h j hj).1 e).1 e
    rw [hq] at this
    exact hd.2.2 j e h' (by simpa using this.symm)
  · have := (h j hj).2 (by omega)
    rw [hq] at this; cases this
theorem DeadI.next {es : List En} {ds : List Bool} {id : Nat} (h : DeadI es ds id) (hid : id < es.length) (hl : id < ds.length) : DeadI es (ds.set id (!(aliveB es[id].st))) (id + 1) := fun j hj => by
  have hj' : j < ds.length := by simpa using hj
  rw [List.getElem_set]
  by_cases e : id = j
  · subst e
    rw [if_pos rfl]
    exact ⟨fun _ => ⟨fun _ => rfl, fun q => absurd q (by omega)⟩, fun q => absurd q (by omega)⟩
  · rw [if_neg e]
    exact ⟨fun h' => ⟨fun q => ((h j hj').1 h').1 (by omega), fun q => ((h j hj').1 h').2 (by omega)⟩, (h j hj').2⟩
theorem bool_set {ds : List Bool} {k : Nat} {b : Bool} (h : k < ds.length) : Lg.stL (ds.map Value.bool) (k * 1) [.bool b] = some ((ds.set k b).map Value.bool) := by
  rw [Nat.mul_one, stL_one (x := .bool ds[k]) (by simp [h]), List.map_set]
theorem RInts.atI {I : Imm} {a : Option Addr} {n c : Nat} {xs : List Int} (h : RInts I (.slice a n c) xs) (i : Nat) (hi : i < xs.length) : At I a (i * 1) [.int .i64 xs[i]] := by
  generalize e : Value.slice a n c = v at h
  obtain ⟨ad, c', xs, hc, hb, hat, hr⟩ := h
  cases e
  exact ints_at hat i hi
theorem StoreOnce_does {I : Imm} {v : Value} {l : List Sp} (hv : RepE StepE I v l) :
    Does Try.prog 3 [v] I [] (fun v I' δ' => v = .bool true ∧ δ' = []) := by
  have hv0 := hv
  obtain ⟨ad, c, xs0, rfl, hc, hb, hcells, hrow⟩ := hv
  refine Does.intro Try.func3 rfl Try.ntmps3 rfl fun w0 => ?_
  refine code_seq ?_
  refine code_region ?_
  refine op_v (v_assign rfl) rfl ?_
  refine ops_nil ?_
  refine post_next ?_
  refine code_seq ?_
  refine code_seq ?_
  refine code_region ?_
  refine op_v (v_move rfl) rfl ?_
  refine op_call pl10 rfl rfl ((few19_does hv0)) Parts.none ?_
  rintro v15 I15 _ hI15 ⟨⟨b15, rfl, hb15⟩, rfl⟩
  by_cases h16 : b15 = true
  · subst h16
    have hN := hb15 rfl
    refine op_v (v_not rfl) rfl ?_
    refine ops_nil ?_
    refine post_next ?_
    refine code_cond_f rfl ?_
    refine code_skip ?_
    refine post_next ?_
    refine code_seq ?_
    refine code_region ?_
    refine op_call pl11 rfl rfl ((SNew_does _)) Parts.none ?_
    rintro v17 I17 _ hI17 ⟨sb, rfl, rfl⟩
    refine op_v (v_assign rfl) rfl ?_
    refine ops_nil ?_
    refine post_next ?_
    refine code_seq ?_
    refine code_seq ?_
    refine code_region ?_
    refine op_v (v_move rfl) rfl ?_
    refine op_v (v_ptrq (z := false) Try.underlying24 rfl rfl rfl) rfl ?_
    refine ops_nil ?_
    refine post_next ?_
    refine code_cond_f rfl ?_
    refine code_skip ?_
    refine post_next ?_
    refine code_seq ?_
    refine code_region ?_
    refine op_v (v_move rfl) rfl ?_
    refine op_v (v_len Try.underlying22 rfl) rfl ?_
    refine o_makeSlice (z := .bool false) (size := 1) (bytes := 1) (xs := (List.replicate l.length false).map Value.bool) Try.underlying26 (by kernel_rfl) rfl rfl rfl (by omega) (by omega) (by rw [Nat.mul_one]; exact (madeCells_one _ _).trans (by simp)) (fun g22 => ?_)
    refine op_v (v_assign rfl) rfl ?_
    refine ops_nil ?_
    refine post_next ?_
    refine code_seq ?_
    refine code_seq ?_
    refine code_region ?_
    refine op_v (v_assign rfl) rfl ?_
    refine ops_nil ?_
    refine post_next ?_
    refine code_block ?_
    refine code_loop (fun m σ' I' δ' => ∃ (i : Nat) (A1 : Option Addr) (c1 : Nat) (xs : List Value) (es : List En) (ds : List Bool), m = l.length - i ∧ i ≤ l.length ∧ σ' = [(0, .slice ad l.length c), (3, .pointer (some ⟨sb, 0, none⟩)), (4, .slice (some ⟨g22, 0, none⟩) l.length l.length), (5, .int .i64 i)] ∧ I17.le I' ∧ δ' = bRow g22 l.length ds :: SE sb A1 c1 es.length xs ∧ RowE EntE I' xs es ∧ GoodS es ∧ es.length ≤ i ∧ ds.length = l.length ∧ DeadI es ds es.length) l.length [(0, .slice ad l.length c), (3, .pointer (some ⟨sb, 0, none⟩)), (4, .slice (some ⟨g22, 0, none⟩) l.length l.length), (5, .int .i64 (0 : Nat))] ⟨0, none, 0, [], [], List.replicate l.length false, rfl, by omega, rfl, Imm.le_refl _, rfl, RowE.nil, ⟨by simp, fun j h => absurd h (by simp)⟩, by simp, by simp, fun j h => ⟨fun h' => absurd h' (by simp), fun _ => by simp⟩⟩ ⟨rfl, rfl, rfl, rfl, trivial⟩ ?_
    rintro m _ I1 _ ⟨i, A1, c1, xs, es, ds, rfl, hi, rfl, hI1, rfl, hr, hg, hei, hdl, hD⟩
    refine code_seq ?_
    refine code_seq ?_
    refine code_region ?_
    refine op_v (v_move rfl) rfl ?_
    refine op_v (v_move rfl) rfl ?_
    refine op_v (v_len Try.underlying22 rfl) rfl ?_
    first | refine op_v (v_cmptA rfl rfl rfl) rfl ?_ | refine op_v (v_cmpfA rfl rfl rfl) rfl ?_ | refine op_v (v_cmp rfl rfl rfl) rfl ?_
    refine ops_nil ?_
    refine post_next ?_
    refine code_cond rfl (fun hc2 => ?_) (fun hc2 => ?_)
    · have hlt : i < l.length := by have h := hc2; simp at h; omega
      obtain ⟨vs, ⟨ca, cc, fa, fc, rfl, hS1, hS2⟩, hat⟩ := hrow.cellsAt hcells hlt
      have hs1 := hat.isSome
      have hle1 : I.le I1 := Imm.leA
      refine code_skip ?_
      refine post_next ?_
      refine code_seq ?_
      refine code_block ?_
      refine code_seq ?_
      refine code_region ?_
      refine op_v (v_move rfl) rfl ?_
      refine op_v (v_move rfl) rfl ?_
      first | refine op_v (v_indexA Try.underlying22 sz30 rfl rfl) rfl ?_ | refine op_v (v_indexIA Try.underlying22 sz30 rfl rfl) rfl ?_
      first | refine op_v (v_loadI0 ty30 (hat.mono hle1) rfl rfl rfl) rfl ?_ | refine op_v (v_loadI ty30 (hat.mono hle1) rfl rfl rfl) rfl ?_
      refine o_alloc z30 rfl rfl (fun b6 => ?_)
      refine o_store ty30 rfl rfl rfl rfl rfl (by repeat (first | exact Swap.here | apply Swap.there)) rfl ?_
      refine ops_nil ?_
      refine post_next ?_
      refine code_seq_meet (fun σ' I' δ' => ∃ (A2 : Option Addr) (c2 : Nat) (xs2 : List Value) (es2 : List En), σ' = [(0, .slice ad l.length c), (3, .pointer (some ⟨sb, 0, none⟩)), (4, .slice (some ⟨g22, 0, none⟩) l.length l.length), (5, .int .i64 i)] ∧ I1.le I' ∧ δ' = bRow g22 l.length ds :: SE sb A2 c2 es2.length xs2 ∧ RowE EntE I' xs2 es2 ∧ GoodS es2 ∧ Died es es2) ?_ ?_
      · refine code_seq ?_
        refine code_region ?_
        first | refine op_v (v_fieldB 0 Try.underlying30 rfl rfl fz3 rfl) rfl ?_ | refine op_v (v_fieldI 0 Try.underlying30 rfl rfl fz3 rfl (by assumption)) rfl ?_ | refine op_v (v_field Try.underlying30 rfl fz3 rfl rfl) rfl ?_
        refine op_v (v_loadA ty3 rfl rfl) rfl ?_
        first | refine op_v (v_cmptA rfl rfl rfl) rfl ?_ | refine op_v (v_cmpfA rfl rfl rfl) rfl ?_ | refine op_v (v_cmp rfl rfl rfl) rfl ?_
        refine ops_nil ?_
        refine post_next ?_
        refine code_cond rfl (fun hc3 => ?_) (fun hc3 => ?_)
        · refine code_region ?_
          refine op_v (v_move rfl) rfl ?_
          first | refine op_v (v_fieldB 4 Try.underlying30 rfl rfl fz27 rfl) rfl ?_ | refine op_v (v_fieldI 4 Try.underlying30 rfl rfl fz27 rfl (by assumption)) rfl ?_ | refine op_v (v_field Try.underlying30 rfl fz27 rfl rfl) rfl ?_
          refine op_v (v_loadA ty27 rfl rfl) rfl ?_
          first | refine op_v (v_fieldB 5 Try.underlying30 rfl rfl fz3 rfl) rfl ?_ | refine op_v (v_fieldI 5 Try.underlying30 rfl rfl fz3 rfl (by assumption)) rfl ?_ | refine op_v (v_field Try.underlying30 rfl fz3 rfl rfl) rfl ?_
          refine op_v (v_loadA ty3 rfl rfl) rfl ?_
          first | refine op_v (v_fieldB 6 Try.underlying30 rfl rfl fz28 rfl) rfl ?_ | refine op_v (v_fieldI 6 Try.underlying30 rfl rfl fz28 rfl (by assumption)) rfl ?_ | refine op_v (v_field Try.underlying30 rfl fz28 rfl rfl) rfl ?_
          refine op_v (v_loadA ty28 rfl rfl) rfl ?_
          refine op_call pl12 rfl rfl ((SAdd_does hr (by omega) (hS1.mono Imm.leA) (hS2.mono Imm.leA))) (List.perm_append_comm (l₁ := [_, _])) ?_
          rintro v43 I43 _ hI43 ⟨n43, e43, A43, c43, xs43, es43, rfl, hh43, hr43, rfl⟩
          refine OpsJ.view (View.perm (List.perm_append_comm (l₂ := [_, _]))) ?_
          obtain ⟨hg43, hd43⟩ := hh43.good hg
          refine ops_nil ?_
          exact PostJ.view (View.drop Del.here) (post_meet _ ⟨A43, c43, xs43, es43, rfl, Imm.leA, rfl, hr43, hg43, hd43⟩ ⟨rfl, rfl, rfl, rfl, trivial⟩)
        · refine code_region ?_
          refine op_v (v_move rfl) rfl ?_
          first | refine op_v (v_fieldB 1 Try.underlying30 rfl rfl fz3 rfl) rfl ?_ | refine op_v (v_fieldI 1 Try.underlying30 rfl rfl fz3 rfl (by assumption)) rfl ?_ | refine op_v (v_field Try.underlying30 rfl fz3 rfl rfl) rfl ?_
          refine op_v (v_loadA ty3 rfl rfl) rfl ?_
          first | refine op_v (v_fieldB 2 Try.underlying30 rfl rfl fz3 rfl) rfl ?_ | refine op_v (v_fieldI 2 Try.underlying30 rfl rfl fz3 rfl (by assumption)) rfl ?_ | refine op_v (v_field Try.underlying30 rfl fz3 rfl rfl) rfl ?_
          refine op_v (v_loadA ty3 rfl rfl) rfl ?_
          first | refine op_v (v_fieldB 3 Try.underlying30 rfl rfl fz3 rfl) rfl ?_ | refine op_v (v_fieldI 3 Try.underlying30 rfl rfl fz3 rfl (by assumption)) rfl ?_ | refine op_v (v_field Try.underlying30 rfl fz3 rfl rfl) rfl ?_
          refine op_v (v_loadA ty3 rfl rfl) rfl ?_
          refine op_call pl13 rfl rfl ((SMove_does hr (by omega) hg.st)) (List.perm_append_comm (l₁ := [_, _])) ?_
          rintro v51 I51 _ hI51 ⟨e51, xs51, es51, rfl, hh51, hr51, rfl⟩
          refine OpsJ.view (View.perm (List.perm_append_comm (l₂ := [_, _]))) ?_
          obtain ⟨hg51, hd51⟩ := hh51.good hg
          have hl51 : es51.length = es.length := by rcases hh51 with ⟨_, h, _⟩ | ⟨_, _, _, _, _, h⟩ <;> rw [h] <;> simp
          rw [← hl51]
          refine ops_nil ?_
          exact PostJ.view (View.drop Del.here) (post_meet _ ⟨A1, c1, xs51, es51, rfl, Imm.leA, rfl, hr51, hg51, hd51⟩ ⟨rfl, rfl, rfl, rfl, trivial⟩)
      · rintro _ I2 _ ⟨A2, c2, xs2, es2, rfl, hI2, rfl, hr2, hg2, hd2⟩
        have hD2 := hD.died hd2
        have hel2 : es2.length ≤ i + 1 := by have := hd2.2.1; omega
        refine code_seq ?_
        refine code_region ?_
        refine op_v (v_assign rfl) rfl ?_
        refine ops_nil ?_
        refine post_next ?_
        refine code_seq ?_
        refine code_seq ?_
        refine code_region ?_
        refine op_v (v_assign rfl) rfl ?_
        refine ops_nil ?_
        refine post_next ?_
        refine code_block ?_
        refine code_loop (fun m σ' I' δ' => ∃ j : Nat, m = 6 - j ∧ j ≤ 6 ∧ σ' = [(0, .slice ad l.length c), (3, .pointer (some ⟨sb, 0, none⟩)), (4, .slice (some ⟨g22, 0, none⟩) l.length l.length), (5, .int .i64 i), (7, .int .i64 (belowN es2 (j : Int) : Nat)), (8, .int .i64 j)] ∧ I2.le I' ∧ δ' = bRow g22 l.length ds :: SE sb A2 c2 es2.length xs2) 6 [(0, .slice ad l.length c), (3, .pointer (some ⟨sb, 0, none⟩)), (4, .slice (some ⟨g22, 0, none⟩) l.length l.length), (5, .int .i64 i), (7, .int .i64 (0 : Nat)), (8, .int .i64 (0 : Nat))] ⟨0, rfl, by omega, by rw [show belowN es2 ((0 : Nat) : Int) = 0 from belowN_zero hg2.st], Imm.le_refl _, rfl⟩ ⟨rfl, rfl, rfl, rfl, rfl, rfl, trivial⟩ ?_
        rintro m _ I3 _ ⟨j, rfl, hj, rfl, hI3, rfl⟩
        have hbl := belowN_le es2 (j : Int)
        refine code_seq ?_
        refine code_seq ?_
        refine code_region ?_
        refine op_v (v_move rfl) rfl ?_
        first | refine op_v (v_cmptA rfl rfl rfl) rfl ?_ | refine op_v (v_cmpfA rfl rfl rfl) rfl ?_ | refine op_v (v_cmp rfl rfl rfl) rfl ?_
        refine ops_nil ?_
        refine post_next ?_
        refine code_cond rfl (fun hc4 => ?_) (fun hc4 => ?_)
        · have hjl : j ≤ 5 := by have h := hc4; simp at h; omega
          refine code_skip ?_
          refine post_next ?_
          refine code_seq ?_
          refine code_block ?_
          refine code_region ?_
          refine op_v (v_move rfl) rfl ?_
          refine op_v (v_move rfl) rfl ?_
          refine op_v (v_move rfl) rfl ?_
          refine op_call pl14 rfl rfl ((SIn_does (st := (j : Int)) (hr2.mono hI3) (by omega))) (List.perm_append_comm (l₁ := [_])) ?_
          rintro v59 I59 _ hI59 ⟨h59, rfl⟩
          refine OpsJ.view (View.perm (List.perm_append_comm (l₂ := [_]))) ?_
          obtain ⟨a59, c59, rfl⟩ := h59.shape
          have hb1 : belowN es2 ((j + 1 : Nat) : Int) = belowN es2 (j : Int) + (es2.filter (isSt (j : Int))).length := belowN_succ es2 (j : Int)
          have hcnt := idsT_count (p := isSt (j : Int)) (es := es2) es2.length (Nat.le_refl _)
          rw [List.take_length] at hcnt
          have hbl1 := belowN_le es2 ((j + 1 : Nat) : Int)
          refine op_v (v_len Try.underlying28 rfl) rfl ?_
          refine op_v (v_addb (c := ((belowN es2 ((j + 1 : Nat) : Int) : Nat) : Int)) rfl rfl (by omega) (by omega)) rfl ?_
          refine op_v (v_assign rfl) rfl ?_
          refine ops_nil ?_
          refine post_out ?_
          refine post_next ?_
          refine code_region ?_
          refine op_v (v_move rfl) rfl ?_
          first | refine op_v (v_addb rfl rfl rfl (by omega)) rfl ?_ | refine op_v (v_add rfl rfl) rfl ?_
          refine op_v (v_assign rfl) rfl ?_
          refine ops_nil ?_
          refine post_again (6 - (j + 1)) [(0, .slice ad l.length c), (3, .pointer (some ⟨sb, 0, none⟩)), (4, .slice (some ⟨g22, 0, none⟩) l.length l.length), (5, .int .i64 i), (7, .int .i64 (belowN es2 ((j + 1 : Nat) : Int) : Nat)), (8, .int .i64 (j + 1 : Nat))] (by omega) ⟨j + 1, rfl, by omega, rfl, Imm.leA, rfl⟩ ⟨rfl, rfl, rfl, rfl, rfl, rfl, trivial⟩
        · have hje : j = 6 := by have h := hc4; simp at h; omega
          subst hje
          rw [show belowN es2 ((6 : Nat) : Int) = es2.length from belowN_all hg2.st]
          refine code_exit ?_
          refine post_exit_then ?_
          refine post_exit_then ?_
          refine post_exit ?_
          refine post_next ?_
          refine code_seq ?_
          refine code_seq ?_
          refine code_region ?_
          refine op_v (v_move rfl) rfl ?_
          refine op_v (v_move rfl) rfl ?_
          refine op_call pl15 rfl rfl ((SSize_does)) (List.perm_append_comm (l₁ := [_])) ?_
          rintro v64 I64 _ hI64 ⟨rfl, rfl⟩
          refine OpsJ.view (View.perm (List.perm_append_comm (l₂ := [_]))) ?_
          first | refine op_v (v_cmptA rfl rfl rfl) rfl ?_ | refine op_v (v_cmpfA rfl rfl rfl) rfl ?_ | refine op_v (v_cmp rfl rfl rfl) rfl ?_
          refine op_v (v_move rfl) rfl ?_
          first
            | (refine op_want rfl rfl ?_
               refine op_v (v_move rfl) rfl ?_)
            | (refine op_skip rfl rfl (by simp [undef]) rfl ?_)
          first
            | (refine op_want rfl rfl ?_
               refine op_v (v_move rfl) rfl ?_)
            | (refine op_skip rfl rfl (by simp [undef]) rfl ?_)
          first
            | (refine op_want rfl rfl ?_
               refine op_v (v_len Try.underlying22 rfl) rfl ?_)
            | (refine op_skip rfl rfl (by simp [undef]) rfl ?_)
          first
            | (refine op_want rfl rfl ?_
               first | refine op_v (v_cmptA rfl rfl rfl) rfl ?_ | refine op_v (v_cmpfA rfl rfl rfl) rfl ?_ | refine op_v (v_cmp rfl rfl rfl) rfl ?_)
            | (refine op_skip rfl rfl (by simp [undef]) rfl ?_)
          first | refine op_v (v_pickt rfl rfl) rfl ?_ | refine op_v (v_pickf rfl rfl) rfl ?_ | refine op_v (v_pickb rfl rfl rfl) rfl ?_
          refine ops_nil ?_
          refine post_next ?_
          refine code_cond_f rfl ?_
          refine code_skip ?_
          refine post_next ?_
          refine code_seq ?_
          refine code_region ?_
          refine op_v (v_move rfl) rfl ?_
          refine op_call pl16 rfl rfl ((SLive_does (hr2.mono Imm.leA) (by omega))) (List.perm_append_comm (l₁ := [_])) ?_
          rintro v73 I73 _ hI73 ⟨h73, rfl⟩
          refine OpsJ.view (View.perm (List.perm_append_comm (l₂ := [_]))) ?_
          obtain ⟨a73, c73, rfl⟩ := h73.shape
          refine op_v (v_assign rfl) rfl ?_
          refine ops_nil ?_
          refine post_next ?_
          refine code_seq ?_
          refine code_region ?_
          refine op_v (v_assign rfl) rfl ?_
          refine ops_nil ?_
          refine post_next ?_
          refine code_block ?_
          refine code_loop (fun m σ' I' δ' => ∃ (id : Nat) (dt : List Bool), m = es2.length - id ∧ id ≤ es2.length ∧ σ' = [(0, .slice ad l.length c), (3, .pointer (some ⟨sb, 0, none⟩)), (4, .slice (some ⟨g22, 0, none⟩) l.length l.length), (5, .int .i64 i), (7, .int .i64 es2.length), (9, .slice a73 (idsT isLv es2 es2.length).length c73), (10, .int .i64 id)] ∧ I73.le I' ∧ δ' = bRow g22 l.length dt :: SE sb A2 c2 es2.length xs2 ∧ dt.length = l.length ∧ DeadI es2 dt id) es2.length [(0, .slice ad l.length c), (3, .pointer (some ⟨sb, 0, none⟩)), (4, .slice (some ⟨g22, 0, none⟩) l.length l.length), (5, .int .i64 i), (7, .int .i64 es2.length), (9, .slice a73 (idsT isLv es2 es2.length).length c73), (10, .int .i64 (0 : Nat))] ⟨0, ds, rfl, by omega, rfl, Imm.le_refl _, rfl, hdl, hD2⟩ ⟨rfl, rfl, rfl, rfl, rfl, rfl, rfl, trivial⟩ ?_
          rintro m _ I4 _ ⟨id, dt, rfl, hid, rfl, hI4, rfl, hdt, hD4⟩
          refine code_seq ?_
          refine code_seq ?_
          refine code_region ?_
          refine op_v (v_move rfl) rfl ?_
          refine op_v (v_move rfl) rfl ?_
          first | refine op_v (v_cmptA rfl rfl rfl) rfl ?_ | refine op_v (v_cmpfA rfl rfl rfl) rfl ?_ | refine op_v (v_cmp rfl rfl rfl) rfl ?_
          refine ops_nil ?_
          refine post_next ?_
          refine code_cond rfl (fun hc6 => ?_) (fun hc6 => ?_)
          · have hil : id < es2.length := by have h := hc6; simp at h; omega
            have hdil : id < dt.length := by omega
            have hstid := hg2.st es2[id] (List.getElem_mem hil)
            have hmem : decide ((id : Int) ∈ idsT isLv es2 es2.length) = aliveB es2[id].st := by
              rw [aliveB_iff hstid.1, decide_eq_decide, idsT_mem (Nat.le_refl _)]
              constructor
              · rintro ⟨j, hj, e, _, h⟩
                have : j = id := by omega
                subst this; simpa [isLv] using h
              · intro h; exact ⟨id, hil, rfl, hil, by simpa [isLv] using h⟩
            refine code_skip ?_
            refine post_next ?_
            refine code_seq ?_
            refine code_block ?_
            refine code_seq ?_
            refine code_region ?_
            refine op_v (v_move rfl) rfl ?_
            refine op_v (v_move rfl) rfl ?_
            refine op_call pl17 rfl rfl ((SGet_does (hr2.mono Imm.leA) (by omega) hil)) (List.perm_append_comm (l₁ := [_])) ?_
            rintro v82 I82 _ hI82 ⟨ca82, cc82, fa82, fc82, rfl, hgc, hgf, rfl⟩
            refine OpsJ.view (View.perm (List.perm_append_comm (l₂ := [_]))) ?_
            refine op_v (v_move rfl) rfl ?_
            refine op_v (v_extract rfl rfl) rfl ?_
            refine op_v (v_extract rfl rfl) rfl ?_
            refine o_alloc z39 rfl rfl (fun b11 => ?_)
            refine o_store ty39 rfl rfl rfl rfl rfl (by repeat (first | exact Swap.here | apply Swap.there)) rfl ?_
            refine op_v (v_assign rfl) rfl ?_
            refine ops_nil ?_
            refine post_next ?_
            refine code_seq_meet (fun σ' I' δ' => σ' = [(0, .slice ad l.length c), (3, .pointer (some ⟨sb, 0, none⟩)), (4, .slice (some ⟨g22, 0, none⟩) l.length l.length), (5, .int .i64 i), (7, .int .i64 es2.length), (9, .slice a73 (idsT isLv es2 es2.length).length c73), (10, .int .i64 id), (11, .pointer (some ⟨b11, 0, none⟩))] ∧ I82.le I' ∧ δ' = .box b11 39 [.slice ca82 es2[id].cl.length cc82, .int .i64 es2[id].rule, .slice fa82 es2[id].from_.length fc82, .int .i64 es2[id].st, .int .i64 es2[id].why] :: bRow g22 l.length dt :: SE sb A2 c2 es2.length xs2) ?_ ?_
            · refine code_seq ?_
              refine code_region ?_
              refine op_v (v_move rfl) rfl ?_
              first | refine op_v (v_cmptA rfl rfl rfl) rfl ?_ | refine op_v (v_cmpfA rfl rfl rfl) rfl ?_ | refine op_v (v_cmp rfl rfl rfl) rfl ?_
              refine op_v (v_move rfl) rfl ?_
              first
                | (refine op_want rfl rfl ?_
                   first | refine op_v (v_fieldB 3 Try.underlying39 rfl rfl fz3 rfl) rfl ?_ | refine op_v (v_fieldI 3 Try.underlying39 rfl rfl fz3 rfl (by assumption)) rfl ?_ | refine op_v (v_field Try.underlying39 rfl fz3 rfl rfl) rfl ?_)
                | (refine op_skip rfl rfl (by simp [undef]) rfl ?_)
              first
                | (refine op_want rfl rfl ?_
                   refine op_v (v_loadA ty3 rfl rfl) rfl ?_)
                | (refine op_skip rfl rfl (by simp [undef]) rfl ?_)
              first
                | (refine op_want rfl rfl ?_
                   refine op_call pl18 rfl rfl ((Alive_does _)) Parts.none ?_
                   rintro v90 I90 _ hI90 ⟨rfl, rfl⟩)
                | (refine op_skip rfl rfl (by simp [undef]) rfl ?_)
              first
                | (refine op_want rfl rfl ?_
                   refine op_v (v_move rfl) rfl ?_)
                | (refine op_skip rfl rfl (by simp [undef]) rfl ?_)
              first
                | (refine op_want rfl rfl ?_
                   refine op_v (v_move rfl) rfl ?_)
                | (refine op_skip rfl rfl (by simp [undef]) rfl ?_)
              first
                | (refine op_want rfl rfl ?_
                   refine op_call pl19 rfl rfl ((InI_does (x := (id : Int)) (h73.mono Imm.leA))) Parts.none ?_
                   rintro v93 I93 _ hI93 ⟨rfl, rfl⟩
                   rw [hmem])
                | (refine op_skip rfl rfl (by simp [undef]) rfl ?_)
              first
                | (refine op_want rfl rfl ?_
                   refine op_v (v_eqb (z := false) Try.underlying4 rfl rfl (by simp [cmpB])) rfl ?_)
                | (refine op_skip rfl rfl (by simp [undef]) rfl ?_)
              first | refine op_v (v_pickt rfl rfl) rfl ?_ | refine op_v (v_pickf rfl rfl) rfl ?_ | refine op_v (v_pickb rfl rfl rfl) rfl ?_
              refine op_v (v_move rfl) rfl ?_
              first
                | (refine op_want rfl rfl ?_
                   refine op_v (v_move rfl) rfl ?_)
                | (refine op_skip rfl rfl (by simp [undef]) rfl ?_)
              first
                | (refine op_want rfl rfl ?_
                   refine op_v (v_move rfl) rfl ?_)
                | (refine op_skip rfl rfl (by simp [undef]) rfl ?_)
              first
                | (refine op_want rfl rfl ?_
                   refine op_v (v_index Try.underlying26 sz4 rfl rfl (by omega) rfl) rfl ?_)
                | (refine op_skip rfl rfl (by simp [undef]) rfl ?_)
              first
                | (refine op_want rfl rfl ?_
                   refine op_v (v_loadRow ty4 rfl (Has.there Has.here) rfl (ld_at (x := .bool dt[id]) (by simp [hdil]))) rfl ?_)
                | (refine op_skip rfl rfl (by simp [undef]) rfl ?_)
              by_cases h101 : dt[id] = true
              · rw [h101]
                have hdead := ((hD4 id hdil).1 hil).2 (Nat.le_refl _) h101
                first
                  | (refine op_want rfl rfl ?_
                     refine op_v (v_move rfl) rfl ?_)
                  | (refine op_skip rfl rfl (by simp [undef]) rfl ?_)
                first
                  | (refine op_want rfl rfl ?_
                     first | refine op_v (v_fieldB 3 Try.underlying39 rfl rfl fz3 rfl) rfl ?_ | refine op_v (v_fieldI 3 Try.underlying39 rfl rfl fz3 rfl (by assumption)) rfl ?_ | refine op_v (v_field Try.underlying39 rfl fz3 rfl rfl) rfl ?_)
                  | (refine op_skip rfl rfl (by simp [undef]) rfl ?_)
                first
                  | (refine op_want rfl rfl ?_
                     refine op_v (v_loadA ty3 rfl rfl) rfl ?_)
                  | (refine op_skip rfl rfl (by simp [undef]) rfl ?_)
                first
                  | (refine op_want rfl rfl ?_
                     refine op_call pl18 rfl rfl ((Alive_does _)) Parts.none ?_
                     rintro v104 I104 _ hI104 ⟨rfl, rfl⟩
                     rw [hdead])
                  | (refine op_skip rfl rfl (by simp [undef]) rfl ?_)
                first
                  | (refine op_want rfl rfl ?_
                     first | refine op_v (v_pickt rfl rfl) rfl ?_ | refine op_v (v_pickf rfl rfl) rfl ?_ | refine op_v (v_pickb rfl rfl rfl) rfl ?_)
                  | (refine op_skip rfl rfl (by simp [undef]) rfl ?_)
                first | refine op_v (v_pickt rfl rfl) rfl ?_ | refine op_v (v_pickf rfl rfl) rfl ?_ | refine op_v (v_pickb rfl rfl rfl) rfl ?_
                refine ops_nil ?_
                refine post_next ?_
                refine code_cond_f rfl ?_
                refine code_skip ?_
                exact post_meet _ ⟨rfl, Imm.leA, rfl⟩ ⟨rfl, rfl, rfl, rfl, rfl, rfl, rfl, rfl, trivial⟩
              · have h101' : dt[id] = false := by simpa using h101
                rw [h101']
                first
                  | (refine op_want rfl rfl ?_
                     refine op_v (v_move rfl) rfl ?_)
                  | (refine op_skip rfl rfl (by simp [undef]) rfl ?_)
                first
                  | (refine op_want rfl rfl ?_
                     first | refine op_v (v_fieldB 3 Try.underlying39 rfl rfl fz3 rfl) rfl ?_ | refine op_v (v_fieldI 3 Try.underlying39 rfl rfl fz3 rfl (by assumption)) rfl ?_ | refine op_v (v_field Try.underlying39 rfl fz3 rfl rfl) rfl ?_)
                  | (refine op_skip rfl rfl (by simp [undef]) rfl ?_)
                first
                  | (refine op_want rfl rfl ?_
                     refine op_v (v_loadA ty3 rfl rfl) rfl ?_)
                  | (refine op_skip rfl rfl (by simp [undef]) rfl ?_)
                first
                  | (refine op_want rfl rfl ?_
                     refine op_call pl18 rfl rfl ((Alive_does _)) Parts.none ?_
                     rintro v104 I104 _ hI104 ⟨rfl, rfl⟩
                     rw [hdead])
                  | (refine op_skip rfl rfl (by simp [undef]) rfl ?_)
                first
                  | (refine op_want rfl rfl ?_
                     first | refine op_v (v_pickt rfl rfl) rfl ?_ | refine op_v (v_pickf rfl rfl) rfl ?_ | refine op_v (v_pickb rfl rfl rfl) rfl ?_)
                  | (refine op_skip rfl rfl (by simp [undef]) rfl ?_)
                first | refine op_v (v_pickt rfl rfl) rfl ?_ | refine op_v (v_pickf rfl rfl) rfl ?_ | refine op_v (v_pickb rfl rfl rfl) rfl ?_
                refine ops_nil ?_
                refine post_next ?_
                refine code_cond_f rfl ?_
                refine code_skip ?_
                exact post_meet _ ⟨rfl, Imm.leA, rfl⟩ ⟨rfl, rfl, rfl, rfl, rfl, rfl, rfl, rfl, trivial⟩
            · rintro _ I6 _ ⟨rfl, hI6, rfl⟩
              refine code_seq ?_
              refine code_region ?_
              refine op_v (v_move rfl) rfl ?_
              refine op_v (v_move rfl) rfl ?_
              first | refine op_v (v_fieldB 3 Try.underlying39 rfl rfl fz3 rfl) rfl ?_ | refine op_v (v_fieldI 3 Try.underlying39 rfl rfl fz3 rfl (by assumption)) rfl ?_ | refine op_v (v_field Try.underlying39 rfl fz3 rfl rfl) rfl ?_
              refine op_v (v_loadA ty3 rfl rfl) rfl ?_
              refine op_call pl18 rfl rfl ((Alive_does _)) Parts.none ?_
              rintro v111 I111 _ hI111 ⟨rfl, rfl⟩
              refine op_v (v_not rfl) rfl ?_
              refine op_v (v_index Try.underlying26 sz4 rfl rfl (by omega) rfl) rfl ?_
              refine o_storeRow (xs' := (dt.set id (!(aliveB es2[id].st))).map Value.bool) ty4 rfl rfl rfl rfl rfl rfl (by simp [cellsL]) (Swap.there Swap.here) (bool_set hdil) ?_
              refine ops_nil ?_
              refine post_next ?_
              refine code_seq ?_
              refine code_region ?_
              refine op_v (v_assign rfl) rfl ?_
              refine ops_nil ?_
              refine post_next ?_
              refine code_block ?_
              refine code_loop (fun m σ' I' δ' => ∃ k : Nat, m = es2[id].from_.length - k ∧ k ≤ es2[id].from_.length ∧ σ' = [(0, .slice ad l.length c), (3, .pointer (some ⟨sb, 0, none⟩)), (4, .slice (some ⟨g22, 0, none⟩) l.length l.length), (5, .int .i64 i), (7, .int .i64 es2.length), (9, .slice a73 (idsT isLv es2 es2.length).length c73), (10, .int .i64 id), (11, .pointer (some ⟨b11, 0, none⟩)), (13, .int .i64 k)] ∧ I111.le I' ∧ δ' = .box b11 39 [.slice ca82 es2[id].cl.length cc82, .int .i64 es2[id].rule, .slice fa82 es2[id].from_.length fc82, .int .i64 es2[id].st, .int .i64 es2[id].why] :: bRow g22 l.length (dt.set id (!(aliveB es2[id].st))) :: SE sb A2 c2 es2.length xs2) es2[id].from_.length [(0, .slice ad l.length c), (3, .pointer (some ⟨sb, 0, none⟩)), (4, .slice (some ⟨g22, 0, none⟩) l.length l.length), (5, .int .i64 i), (7, .int .i64 es2.length), (9, .slice a73 (idsT isLv es2 es2.length).length c73), (10, .int .i64 id), (11, .pointer (some ⟨b11, 0, none⟩)), (13, .int .i64 (0 : Nat))] ⟨0, rfl, by omega, rfl, Imm.le_refl _, rfl⟩ ⟨rfl, rfl, rfl, rfl, rfl, rfl, rfl, rfl, rfl, trivial⟩ ?_
              rintro m _ I5 _ ⟨k, rfl, hk, rfl, hI5, rfl⟩
              have hle5 : I82.le I5 := Imm.leA
              have hfl := hgf.len.1
              refine code_seq ?_
              refine code_seq ?_
              refine code_region ?_
              refine op_v (v_move rfl) rfl ?_
              first | refine op_v (v_fieldB 2 Try.underlying39 rfl rfl fz28 rfl) rfl ?_ | refine op_v (v_fieldI 2 Try.underlying39 rfl rfl fz28 rfl (by assumption)) rfl ?_ | refine op_v (v_field Try.underlying39 rfl fz28 rfl rfl) rfl ?_
              refine op_v (v_loadA ty28 rfl rfl) rfl ?_
              refine op_v (v_len Try.underlying28 rfl) rfl ?_
              first | refine op_v (v_cmptA rfl rfl rfl) rfl ?_ | refine op_v (v_cmpfA rfl rfl rfl) rfl ?_ | refine op_v (v_cmp rfl rfl rfl) rfl ?_
              refine ops_nil ?_
              refine post_next ?_
              refine code_cond rfl (fun hc8 => ?_) (fun hc8 => ?_)
              · have hkl : k < es2[id].from_.length := by have h := hc8; simp at h; omega
                have hfr := hg2.fr id hil _ (List.getElem_mem hkl)
                have hata := (hgf.mono hle5).atI k hkl
                have hsa := hata.isSome
                have hch : (id : Int) ∈ idsT (hasCh es2[id].from_[k]) es2 es2.length := (idsT_mem (Nat.le_refl _)).2 ⟨id, hil, rfl, hil, by simp [hasCh]⟩
                refine code_skip ?_
                refine post_next ?_
                refine code_seq ?_
                refine code_block ?_
                refine code_seq ?_
                refine code_region ?_
                first | refine op_v (v_fieldB 2 Try.underlying39 rfl rfl fz28 rfl) rfl ?_ | refine op_v (v_fieldI 2 Try.underlying39 rfl rfl fz28 rfl (by assumption)) rfl ?_ | refine op_v (v_field Try.underlying39 rfl fz28 rfl rfl) rfl ?_
                refine op_v (v_loadA ty28 rfl rfl) rfl ?_
                refine op_v (v_move rfl) rfl ?_
                first | refine op_v (v_indexA Try.underlying28 sz3 rfl rfl) rfl ?_ | refine op_v (v_indexIA Try.underlying28 sz3 rfl rfl) rfl ?_
                first | refine op_v (v_loadI0 ty3 (hata) rfl rfl rfl) rfl ?_ | refine op_v (v_loadI ty3 (hata) rfl rfl rfl) rfl ?_
                first | refine op_v (v_cmptA rfl rfl rfl) rfl ?_ | refine op_v (v_cmpfA rfl rfl rfl) rfl ?_ | refine op_v (v_cmp rfl rfl rfl) rfl ?_
                refine op_v (v_move rfl) rfl ?_
                first
                  | (refine op_want rfl rfl ?_
                     first | refine op_v (v_fieldB 2 Try.underlying39 rfl rfl fz28 rfl) rfl ?_ | refine op_v (v_fieldI 2 Try.underlying39 rfl rfl fz28 rfl (by assumption)) rfl ?_ | refine op_v (v_field Try.underlying39 rfl fz28 rfl rfl) rfl ?_)
                  | (refine op_skip rfl rfl (by simp [undef]) rfl ?_)
                first
                  | (refine op_want rfl rfl ?_
                     refine op_v (v_loadA ty28 rfl rfl) rfl ?_)
                  | (refine op_skip rfl rfl (by simp [undef]) rfl ?_)
                first
                  | (refine op_want rfl rfl ?_
                     refine op_v (v_move rfl) rfl ?_)
                  | (refine op_skip rfl rfl (by simp [undef]) rfl ?_)
                first
                  | (refine op_want rfl rfl ?_
                     first | refine op_v (v_indexA Try.underlying28 sz3 rfl rfl) rfl ?_ | refine op_v (v_indexIA Try.underlying28 sz3 rfl rfl) rfl ?_)
                  | (refine op_skip rfl rfl (by simp [undef]) rfl ?_)
                first
                  | (refine op_want rfl rfl ?_
                     first | refine op_v (v_loadI0 ty3 (hata) rfl rfl rfl) rfl ?_ | refine op_v (v_loadI ty3 (hata) rfl rfl rfl) rfl ?_)
                  | (refine op_skip rfl rfl (by simp [undef]) rfl ?_)
                first
                  | (refine op_want rfl rfl ?_
                     refine op_v (v_move rfl) rfl ?_)
                  | (refine op_skip rfl rfl (by simp [undef]) rfl ?_)
                first
                  | (refine op_want rfl rfl ?_
                     first | refine op_v (v_cmptA rfl rfl rfl) rfl ?_ | refine op_v (v_cmpfA rfl rfl rfl) rfl ?_ | refine op_v (v_cmp rfl rfl rfl) rfl ?_)
                  | (refine op_skip rfl rfl (by simp [undef]) rfl ?_)
                first | refine op_v (v_pickt rfl rfl) rfl ?_ | refine op_v (v_pickf rfl rfl) rfl ?_ | refine op_v (v_pickb rfl rfl rfl) rfl ?_
                refine op_v (v_move rfl) rfl ?_
                first
                  | (refine op_want rfl rfl ?_
                     refine op_v (v_move rfl) rfl ?_)
                  | (refine op_skip rfl rfl (by simp [undef]) rfl ?_)
                first
                  | (refine op_want rfl rfl ?_
                     refine op_v (v_move rfl) rfl ?_)
                  | (refine op_skip rfl rfl (by simp [undef]) rfl ?_)
                first
                  | (refine op_want rfl rfl ?_
                     first | refine op_v (v_fieldB 2 Try.underlying39 rfl rfl fz28 rfl) rfl ?_ | refine op_v (v_fieldI 2 Try.underlying39 rfl rfl fz28 rfl (by assumption)) rfl ?_ | refine op_v (v_field Try.underlying39 rfl fz28 rfl rfl) rfl ?_)
                  | (refine op_skip rfl rfl (by simp [undef]) rfl ?_)
                first
                  | (refine op_want rfl rfl ?_
                     refine op_v (v_loadA ty28 rfl rfl) rfl ?_)
                  | (refine op_skip rfl rfl (by simp [undef]) rfl ?_)
                first
                  | (refine op_want rfl rfl ?_
                     refine op_v (v_move rfl) rfl ?_)
                  | (refine op_skip rfl rfl (by simp [undef]) rfl ?_)
                first
                  | (refine op_want rfl rfl ?_
                     first | refine op_v (v_indexA Try.underlying28 sz3 rfl rfl) rfl ?_ | refine op_v (v_indexIA Try.underlying28 sz3 rfl rfl) rfl ?_)
                  | (refine op_skip rfl rfl (by simp [undef]) rfl ?_)
                first
                  | (refine op_want rfl rfl ?_
                     first | refine op_v (v_loadI0 ty3 (hata) rfl rfl rfl) rfl ?_ | refine op_v (v_loadI ty3 (hata) rfl rfl rfl) rfl ?_)
                  | (refine op_skip rfl rfl (by simp [undef]) rfl ?_)
                first
                  | (refine op_want rfl rfl ?_
                     refine op_call pl20 rfl rfl ((SChild_does (id := es2[id].from_[k]) (hr2.mono Imm.leA) (by omega))) (List.perm_append_comm (l₁ := [_, _])) ?_
                     rintro v144 I144 _ hI144 ⟨h144, rfl⟩
                     refine OpsJ.view (View.perm (List.perm_append_comm (l₂ := [_, _]))) ?_)
                  | (refine op_skip rfl rfl (by simp [undef]) rfl ?_)
                first
                  | (refine op_want rfl rfl ?_
                     refine op_call pl19 rfl rfl ((InI_does (x := (id : Int)) h144)) Parts.none ?_
                     rintro v145 I145 _ hI145 ⟨rfl, rfl⟩
                     rw [decide_eq_true hch])
                  | (refine op_skip rfl rfl (by simp [undef]) rfl ?_)
                first
                  | (refine op_want rfl rfl ?_
                     refine op_v (v_not rfl) rfl ?_)
                  | (refine op_skip rfl rfl (by simp [undef]) rfl ?_)
                first | refine op_v (v_pickt rfl rfl) rfl ?_ | refine op_v (v_pickf rfl rfl) rfl ?_ | refine op_v (v_pickb rfl rfl rfl) rfl ?_
                refine ops_nil ?_
                refine post_next ?_
                refine code_cond_f rfl ?_
                refine code_skip ?_
                refine post_out ?_
                refine post_next ?_
                refine code_region ?_
                refine op_v (v_move rfl) rfl ?_
                first | refine op_v (v_addb rfl rfl rfl (by omega)) rfl ?_ | refine op_v (v_add rfl rfl) rfl ?_
                refine op_v (v_assign rfl) rfl ?_
                refine ops_nil ?_
                refine post_again (es2[id].from_.length - (k + 1)) [(0, .slice ad l.length c), (3, .pointer (some ⟨sb, 0, none⟩)), (4, .slice (some ⟨g22, 0, none⟩) l.length l.length), (5, .int .i64 i), (7, .int .i64 es2.length), (9, .slice a73 (idsT isLv es2 es2.length).length c73), (10, .int .i64 id), (11, .pointer (some ⟨b11, 0, none⟩)), (13, .int .i64 (k + 1 : Nat))] (by omega) ⟨k + 1, rfl, hkl, rfl, Imm.leA, rfl⟩ ⟨rfl, rfl, rfl, rfl, rfl, rfl, rfl, rfl, rfl, trivial⟩
              · refine code_exit ?_
                refine post_exit_then ?_
                refine post_exit_then ?_
                refine post_exit ?_
                refine post_out ?_
                refine post_next ?_
                refine code_region ?_
                refine op_v (v_move rfl) rfl ?_
                first | refine op_v (v_addb rfl rfl rfl (by omega)) rfl ?_ | refine op_v (v_add rfl rfl) rfl ?_
                refine op_v (v_assign rfl) rfl ?_
                refine ops_nil ?_
                refine PostJ.view (View.drop Del.here) ?_
                refine post_again (es2.length - (id + 1)) [(0, .slice ad l.length c), (3, .pointer (some ⟨sb, 0, none⟩)), (4, .slice (some ⟨g22, 0, none⟩) l.length l.length), (5, .int .i64 i), (7, .int .i64 es2.length), (9, .slice a73 (idsT isLv es2 es2.length).length c73), (10, .int .i64 (id + 1 : Nat))] (by omega) ⟨id + 1, _, rfl, hil, rfl, Imm.leA, rfl, by simpa using hdt, hD4.next hil hdil⟩ ⟨rfl, rfl, rfl, rfl, rfl, rfl, rfl, trivial⟩
          · have hie : id = es2.length := by have h := hc6; simp at h; omega
            subst hie
            refine code_exit ?_
            refine post_exit_then ?_
            refine post_exit_then ?_
            refine post_exit ?_
            refine post_out ?_
            refine post_next ?_
            refine code_region ?_
            refine op_v (v_move rfl) rfl ?_
            first | refine op_v (v_addb rfl rfl rfl (by omega)) rfl ?_ | refine op_v (v_add rfl rfl) rfl ?_
            refine op_v (v_assign rfl) rfl ?_
            refine ops_nil ?_
            refine post_again (l.length - (i + 1)) [(0, .slice ad l.length c), (3, .pointer (some ⟨sb, 0, none⟩)), (4, .slice (some ⟨g22, 0, none⟩) l.length l.length), (5, .int .i64 (i + 1 : Nat))] (by omega) ⟨i + 1, A2, c2, xs2, es2, dt, rfl, hlt, rfl, Imm.leA, rfl, hr2.mono Imm.leA, hg2, hel2, hdt, hD4⟩ ⟨rfl, rfl, rfl, rfl, trivial⟩
    · have hge : i = l.length := by have h := hc2; simp at h; omega
      refine code_exit ?_
      refine post_exit_then ?_
      refine post_exit_then ?_
      refine post_exit ?_
      refine post_next ?_
      refine code_seq ?_
      refine code_region ?_
      refine op_call pl21 rfl rfl ((awake19_does _)) Parts.none ?_
      rintro v148 I148 _ hI148 ⟨rfl, rfl⟩
      refine op_v (v_assign rfl) rfl ?_
      refine ops_nil ?_
      refine post_next ?_
      refine code_ret ?_
      refine post_ret (rs := [.tmp 2]) rfl (List.Perm.refl _) (.cons (.tmp rfl) .nil) (List.nil_sublist _) ?_
      exact ⟨rfl, rfl⟩
  · have h16' : b15 = false := by simpa using h16
    subst h16'
    refine op_v (v_not rfl) rfl ?_
    refine ops_nil ?_
    refine post_next ?_
    refine code_cond_t rfl ?_
    refine code_seq ?_
    refine code_region ?_
    refine op_v (v_assign rfl) rfl ?_
    refine ops_nil ?_
    refine post_next ?_
    refine code_ret ?_
    refine post_ret_then ?_
    refine post_ret (rs := [.tmp 2]) rfl (List.Perm.refl _) (.cons (.tmp rfl) .nil) (List.nil_sublist _) ?_
    exact ⟨rfl, rfl⟩
end Go.Proofs.Ythbcdffldcdfoaa
