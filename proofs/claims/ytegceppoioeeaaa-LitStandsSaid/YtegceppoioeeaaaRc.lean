/- Walks: the document's answers on variables and weights. -/
import Derived.Test.YtegceppoioeeaaaRb
import Derived.Test.YtegceppoioeeaaaZ2
set_option linter.unusedVariables false
set_option linter.unusedSimpArgs false
/- short -/
namespace Go.Proofs.Ytegceppoioeeaaa
open Go Lg

/-! ### plain -/
theorem hdsL_eq : ∀ ts : List T, (visL ts).map (·.2.head) = ts.flatMap hds
  | [] => rfl
  | t :: r => by
    rw [visL, List.map_append, hdsL_eq r, List.flatMap_cons]
    congr 1
    unfold hds
    rw [visT_eq, visT_eq]; rfl
theorem hds_eq (h : Int) (ts : List T) : hds (.mk h ts) = h :: ts.flatMap hds := by
  have : hds (.mk h ts) = h :: (visL ts).map (·.2.head) := by unfold hds; rw [visT_eq]; rfl
  rw [this, hdsL_eq]
theorem chk_head {h : Int} {ts : List T} (hc : chkT (.mk h ts) = 0) : -256 ≤ h := (chk_vis hc (true, .mk h ts) (by rw [visT_eq]; exact List.mem_cons_self ..)).2
/-- variables of some, as numbers -/
def VarsOf (t : T) (xs : List Int) : Prop := ∀ n : Int, n ∈ xs ↔ 0 ≤ n ∧ -1 - n ∈ hds t
def VarsOfL (h : Int) (ts : List T) (xs : List Int) : Prop := ∀ n : Int, n ∈ xs ↔ 0 ≤ n ∧ (-1 - n = h ∨ -1 - n ∈ ts.flatMap hds)
/-! ### walks -/
theorem In_does {I : Imm} {ar : Option Addr} {cr : Nat} {xs : List Int} {x : Int} (hb : xs.length ≤ 1000000000) :
    Does Try.prog 135 [.int .i64 x, .slice ar xs.length cr] I [iRow ar cr xs] (fun v I' δ' => v = .bool (decide (x ∈ xs)) ∧ δ' = [iRow ar cr xs]) := by
  refine Does.intro Try.func135 rfl Try.ntmps135 rfl fun w0 => ?_
  refine code_seq ?_
  refine code_region ?_
  refine op_v (v_assign rfl) rfl ?_
  refine ops_nil ?_
  refine post_next ?_
  refine code_seq ?_
  refine code_seq ?_
  refine code_region ?_
  refine op_v (v_assign rfl) rfl ?_
  refine ops_nil ?_
  refine post_next ?_
  refine code_block ?_
  refine code_loop (fun m σ' I' δ' => ∃ k : Nat, m = xs.length - k ∧ σ' = [(0, .int .i64 x), (1, .slice ar xs.length cr), (5, .int .i64 k)] ∧ I' = I ∧ δ' = [iRow ar cr xs] ∧ k ≤ xs.length ∧ x ∉ xs.take k) (xs.length - 0) [(0, .int .i64 x), (1, .slice ar xs.length cr), (5, .int .i64 (0 : Nat))] ⟨0, rfl, rfl, rfl, rfl, ⟨Nat.zero_le _, by simp⟩⟩ ⟨rfl, rfl, rfl, trivial⟩ ?_
  rintro m _ _ _ ⟨k, rfl, rfl, rfl, rfl, hp⟩
  obtain ⟨hk, hp⟩ := hp
  refine code_seq ?_
  refine code_seq ?_
  refine code_region ?_
  refine op_v (v_move rfl) rfl ?_
  refine op_v (v_move rfl) rfl ?_
  refine op_v (v_len Try.underlying42 rfl) rfl ?_
  first | refine op_v (v_cmptA rfl rfl rfl) rfl ?_ | refine op_v (v_cmpfA rfl rfl rfl) rfl ?_ | refine op_v (v_cmp rfl rfl rfl) rfl ?_
  refine ops_nil ?_
  refine post_next ?_
  refine code_cond rfl (fun hc0 => ?_) (fun hc0 => ?_)
  · have hlt : k < xs.length := by simpa using hc0
    refine code_skip ?_
    refine post_next ?_
    refine code_seq ?_
    refine code_block ?_
    refine code_seq ?_
    refine code_region ?_
    refine OpsJ.rowSome Has.here (by omega) (fun hA hcr => ?_)
    refine op_v (v_move rfl) rfl ?_
    refine op_v (v_move rfl) rfl ?_
    first | refine op_v (v_indexA Try.underlying42 sz3 rfl rfl) rfl ?_ | refine op_v (v_indexIA Try.underlying42 sz3 rfl rfl) rfl ?_
    refine op_v (v_loadRow ty3 rfl Has.here hA (ld_at (x := .int .i64 xs[k]) (by simp [hlt]))) rfl ?_
    refine op_v (v_move rfl) rfl ?_
    first | refine op_v (v_cmptA rfl rfl rfl) rfl ?_ | refine op_v (v_cmpfA rfl rfl rfl) rfl ?_ | refine op_v (v_cmp rfl rfl rfl) rfl ?_
    refine ops_nil ?_
    refine post_next ?_
    refine code_cond rfl (fun hc1 => ?_) (fun hc1 => ?_)
    · have heq : xs[k] = x := by simpa using hc1
      refine code_seq ?_
      refine code_region ?_
      refine op_v (v_assign rfl) rfl ?_
      refine ops_nil ?_
      refine post_next ?_
      refine code_ret ?_
      refine post_ret_block ?_
      refine post_ret_then ?_
      refine post_ret_then ?_
      refine post_ret_block ?_
      refine post_ret_then ?_
      refine post_ret (rs := [.tmp 4]) rfl (List.Perm.refl _) (.cons (.tmp rfl) .nil) (List.Sublist.refl _) ?_
      exact ⟨by rw [show decide (x ∈ xs) = true by simp [← heq]]; rfl, rfl⟩
    · have hne : x ≠ xs[k] := by have h := hc1; simp at h; exact fun e => h e.symm
      refine code_skip ?_
      refine post_out ?_
      refine post_next ?_
      refine code_region ?_
      refine op_v (v_move rfl) rfl ?_
      first | refine op_v (v_addb rfl rfl rfl (by omega)) rfl ?_ | refine op_v (v_add rfl rfl) rfl ?_
      refine op_v (v_assign rfl) rfl ?_
      refine ops_nil ?_
      refine post_again (xs.length - (k + 1)) [(0, .int .i64 x), (1, .slice ar xs.length cr), (5, .int .i64 (k + 1 : Nat))] (by omega) ⟨k + 1, rfl, rfl, rfl, rfl, ⟨hlt, by rw [List.take_succ_eq_append_getElem hlt, List.mem_append, List.mem_singleton]; exact fun h => h.elim hp hne⟩⟩ ⟨rfl, rfl, rfl, trivial⟩
  · have hge : k = xs.length := by simp at hc0; omega
    subst hge
    rw [List.take_length] at hp
    refine code_exit ?_
    refine post_exit_then ?_
    refine post_exit_then ?_
    refine post_exit ?_
    refine post_next ?_
    refine code_seq ?_
    refine code_region ?_
    refine op_v (v_assign rfl) rfl ?_
    refine ops_nil ?_
    refine post_next ?_
    refine code_ret ?_
    refine post_ret (rs := [.tmp 4]) rfl (List.Perm.refl _) (.cons (.tmp rfl) .nil) (List.Sublist.refl _) ?_
    exact ⟨by rw [show decide (x ∈ xs) = false by simp [hp]]; rfl, rfl⟩
theorem RVars_does : ∀ (n : Nat) (t : T), t.size ≤ n → chkT t = 0 → ∀ (I : Imm) (v : Value), RepT I v t →
    Does Try.prog 131 [v] I [] (fun v I' δ' => (∃ xs, RInts I' v xs ∧ VarsOf t xs ∧ xs.length ≤ t.size) ∧ δ' = []) := by
  intro n
  induction n with
  | zero => intro t ht; have := t.size_pos; omega
  | succ n ih =>
    intro t ht hck I v hv
    obtain ⟨h, ts⟩ := t
    obtain ⟨ad, c, ss, rfl, hr, hc, hb, hat, hsub⟩ := hv.elim
    have hsz : (T.mk h ts).size = 1 + sizeL ts := by simp [T.size]
    obtain ⟨hlf, hch⟩ := chkT_args hck
    have hh := chk_head hck
    have hs4 := chkT_size hck
    refine Does.intro Try.func131 rfl Try.ntmps131 rfl fun w0 => ?_
    refine code_seq ?_
    refine code_region ?_
    refine o_box rfl rfl rfl (fun b1 => ?_)
    refine op_v (v_assign rfl) rfl ?_
    refine ops_nil ?_
    refine post_next ?_
    refine code_seq ?_
    refine code_region ?_
    refine op_v (v_assign rfl) rfl ?_
    refine ops_nil ?_
    refine post_next ?_
    refine code_seq_meet (fun σ' I' δ' => ∃ (ar : Option Addr) (cr : Nat) (xs : List Int), σ' = [(1, .pointer (some ⟨b1, 0, none⟩)), (3, .slice ar xs.length cr)] ∧ I = I' ∧ δ' = [iRow ar cr xs, .box b1 25 [.int .i64 h, .slice ad ts.length c]] ∧ VarsOfL h [] xs ∧ xs.length ≤ 1) ?_ ?_
    · refine code_seq ?_
      refine code_region ?_
      first | refine op_v (v_fieldB 0 Try.underlying25 rfl rfl fz3 rfl) rfl ?_ | refine op_v (v_fieldI 0 Try.underlying25 rfl rfl fz3 rfl (by assumption)) rfl ?_ | refine op_v (v_field Try.underlying25 rfl fz3 rfl rfl) rfl ?_
      refine op_v (v_loadA ty3 rfl rfl) rfl ?_
      first | refine op_v (v_cmptA rfl rfl rfl) rfl ?_ | refine op_v (v_cmpfA rfl rfl rfl) rfl ?_ | refine op_v (v_cmp rfl rfl rfl) rfl ?_
      refine ops_nil ?_
      refine post_next ?_
      refine code_cond rfl (fun hc0 => ?_) (fun hc0 => ?_)
      · have h9 : h < 0 := by simpa using hc0
        refine code_region ?_
        refine op_v (v_move rfl) rfl ?_
        first | refine op_v (v_fieldB 0 Try.underlying25 rfl rfl fz3 rfl) rfl ?_ | refine op_v (v_fieldI 0 Try.underlying25 rfl rfl fz3 rfl (by assumption)) rfl ?_ | refine op_v (v_field Try.underlying25 rfl fz3 rfl rfl) rfl ?_
        refine op_v (v_loadA ty3 rfl rfl) rfl ?_
        first | refine op_v (v_subb rfl rfl rfl (by omega)) rfl ?_ | refine op_v (v_sub rfl rfl) rfl ?_
        refine o_buildSlice (xs := [(Go.Operand.tmp 13)]) Try.underlying42 bs3 rfl rfl rfl rfl rfl (fun b14 => ?_)
        refine OpsJ.view (View.nilRow 3 1) ?_
        refine o_append Try.underlying42 bs3 rfl rfl rfl (fun v' => by repeat (first | exact Swap.here | apply Swap.there)) (Src.ofRow (by repeat (first | exact Has.here | apply Has.there)) rfl) (by first | rfl | omega | simp) (by simp [cat, cellsL, Value.oneCell']) (by omega) (by omega) (fun a15 c15 => ?_)
        refine op_v (v_assign rfl) rfl ?_
        refine ops_nil ?_
        refine PostJ.view (View.drop (Del.there Del.here)) ?_
        refine post_meet _ ⟨a15, c15, [-1 - h], rfl, rfl, by simp [iRow, cat, cellsL], fun n => by simp; omega, by simp⟩ ⟨rfl, rfl, trivial⟩
      · have h9 : ¬ h < 0 := by simpa using hc0
        refine code_skip ?_
        refine PostJ.view (View.nilRow 3 1) ?_
        refine post_meet _ ⟨none, 0, [], rfl, rfl, rfl, fun n => by simp; omega, by simp⟩ ⟨rfl, rfl, trivial⟩
    · rintro _ _ _ ⟨ar, cr, xs, rfl, rfl, rfl, hxs, hxl⟩
      refine code_seq ?_
      refine code_seq ?_
      refine code_region ?_
      refine op_v (v_assign rfl) rfl ?_
      refine ops_nil ?_
      refine post_next ?_
      refine code_block ?_
      refine code_loop (fun m σ' I' δ' => ∃ (k : Nat) (ar : Option Addr) (cr : Nat) (xs : List Int), m = ts.length - k ∧ k ≤ ts.length ∧ σ' = [(1, .pointer (some ⟨b1, 0, none⟩)), (3, .slice ar xs.length cr), (4, .int .i64 k)] ∧ I.le I' ∧ δ' = [iRow ar cr xs, .box b1 25 [.int .i64 h, .slice ad ts.length c]] ∧ VarsOfL h (ts.take k) xs ∧ xs.length ≤ 1 + sizeL (ts.take k)) ts.length [(1, .pointer (some ⟨b1, 0, none⟩)), (3, .slice ar xs.length cr), (4, .int .i64 (0 : Nat))] ⟨0, ar, cr, xs, rfl, Nat.zero_le _, rfl, Imm.le_refl _, rfl, hxs, by simp [sizeL]; exact hxl⟩ ⟨rfl, rfl, rfl, trivial⟩ ?_
      rintro m _ I0 _ ⟨k, ar, cr, xs, rfl, hk, rfl, hI0, rfl, hxs, hxl⟩
      refine code_seq ?_
      refine code_seq ?_
      refine code_region ?_
      refine op_v (v_move rfl) rfl ?_
      first | refine op_v (v_fieldB 1 Try.underlying25 rfl rfl fz23 rfl) rfl ?_ | refine op_v (v_fieldI 1 Try.underlying25 rfl rfl fz23 rfl (by assumption)) rfl ?_ | refine op_v (v_field Try.underlying25 rfl fz23 rfl rfl) rfl ?_
      refine op_v (v_loadA ty23 rfl rfl) rfl ?_
      refine op_v (v_len Try.underlying23 rfl) rfl ?_
      first | refine op_v (v_cmptA rfl rfl rfl) rfl ?_ | refine op_v (v_cmpfA rfl rfl rfl) rfl ?_ | refine op_v (v_cmp rfl rfl rfl) rfl ?_
      refine ops_nil ?_
      refine post_next ?_
      refine code_cond rfl (fun hc1 => ?_) (fun hc1 => ?_)
      · have hlt : k < ts.length := by simpa using hc1
        have hs1 := (hat k hlt).isSome
        have hm := sizeL_mem ts k hlt
        have hst := sizeL_take ts k hlt
        have hsd : sizeL (ts.take k) + sizeL (ts.drop k) = sizeL ts := by rw [← sizeL_app, List.take_append_drop]
        have hsd2 := sizeL_drop ts k hlt
        refine code_skip ?_
        refine post_next ?_
        refine code_seq ?_
        refine code_block ?_
        refine code_seq ?_
        refine code_region ?_
        first | refine op_v (v_fieldB 1 Try.underlying25 rfl rfl fz23 rfl) rfl ?_ | refine op_v (v_fieldI 1 Try.underlying25 rfl rfl fz23 rfl (by assumption)) rfl ?_ | refine op_v (v_field Try.underlying25 rfl fz23 rfl rfl) rfl ?_
        refine op_v (v_loadA ty23 rfl rfl) rfl ?_
        refine op_v (v_move rfl) rfl ?_
        first | refine op_v (v_indexA Try.underlying23 sz25 rfl rfl) rfl ?_ | refine op_v (v_indexIA Try.underlying23 sz25 rfl rfl) rfl ?_
        first | refine op_v (v_loadI0 ty25 ((hat k hlt).mono hI0) rfl rfl rfl) rfl ?_ | refine op_v (v_loadI ty25 ((hat k hlt).mono hI0) rfl rfl rfl) rfl ?_
        refine op_call pl131 rfl rfl ((ih ts[k] (by omega) (hch k hlt) _ _ ((hsub k hlt).mono hI0))) Parts.none ?_
        rintro v28 I28 _ hI28 ⟨⟨ys, ⟨yd, yc, ys, hyc, hyb, hyat, hyr⟩, hys, hyl⟩, rfl⟩
        refine op_v (v_assign rfl) rfl ?_
        refine ops_nil ?_
        refine post_next ?_
        refine code_seq ?_
        refine code_region ?_
        refine op_v (v_assign rfl) rfl ?_
        refine ops_nil ?_
        refine post_next ?_
        refine code_block ?_
        refine code_loop (fun m σ' I' δ' => ∃ (j : Nat) (ar : Option Addr) (cr : Nat) (zs : List Int), m = ys.length - j ∧ j ≤ ys.length ∧ σ' = [(1, .pointer (some ⟨b1, 0, none⟩)), (3, .slice ar zs.length cr), (4, .int .i64 k), (5, .slice yd ys.length yc), (6, .int .i64 j)] ∧ I28.le I' ∧ δ' = [iRow ar cr zs, .box b1 25 [.int .i64 h, .slice ad ts.length c]] ∧ (∀ n, n ∈ zs ↔ n ∈ xs ∨ n ∈ ys.take j) ∧ zs.length ≤ xs.length + j) ys.length [(1, .pointer (some ⟨b1, 0, none⟩)), (3, .slice ar xs.length cr), (4, .int .i64 k), (5, .slice yd ys.length yc), (6, .int .i64 (0 : Nat))] ⟨0, ar, cr, xs, rfl, Nat.zero_le _, rfl, Imm.le_refl _, rfl, fun n => by simp, by omega⟩ ⟨rfl, rfl, rfl, rfl, rfl, trivial⟩ ?_
        rintro m _ I1 _ ⟨j, ar, cr, zs, rfl, hj, rfl, hI1, rfl, hzs, hzl⟩
        refine code_seq ?_
        refine code_seq ?_
        refine code_region ?_
        refine op_v (v_move rfl) rfl ?_
        refine op_v (v_move rfl) rfl ?_
        refine op_v (v_len Try.underlying42 rfl) rfl ?_
        first | refine op_v (v_cmptA rfl rfl rfl) rfl ?_ | refine op_v (v_cmpfA rfl rfl rfl) rfl ?_ | refine op_v (v_cmp rfl rfl rfl) rfl ?_
        refine ops_nil ?_
        refine post_next ?_
        refine code_cond rfl (fun hc2 => ?_) (fun hc2 => ?_)
        · have hltj : j < ys.length := by simpa using hc2
          have hsy := ints_some hyat j hltj
          refine code_skip ?_
          refine post_next ?_
          refine code_seq ?_
          refine code_block ?_
          refine code_seq ?_
          refine code_region ?_
          refine op_v (v_move rfl) rfl ?_
          refine op_v (v_move rfl) rfl ?_
          first | refine op_v (v_indexA Try.underlying42 sz3 rfl rfl) rfl ?_ | refine op_v (v_indexIA Try.underlying42 sz3 rfl rfl) rfl ?_
          first | refine op_v (v_loadI0 ty3 ((ints_at hyat j hltj).mono hI1) rfl rfl rfl) rfl ?_ | refine op_v (v_loadI ty3 ((ints_at hyat j hltj).mono hI1) rfl rfl rfl) rfl ?_
          refine op_v (v_move rfl) rfl ?_
          refine op_call pl135 rfl rfl ((In_does (by omega))) (Parts.one Del.here) ?_
          rintro v40 I40 _ hI40 ⟨rfl, rfl⟩
          by_cases hm41 : ys[j] ∈ zs
          · rw [show decide (ys[j] ∈ zs) = true by simpa using hm41]
            refine op_v (v_not rfl) rfl ?_
            refine ops_nil ?_
            refine post_next ?_
            refine code_cond_f rfl ?_
            refine code_skip ?_
            refine post_out ?_
            refine post_next ?_
            refine code_region ?_
            refine op_v (v_move rfl) rfl ?_
            first | refine op_v (v_addb rfl rfl rfl (by omega)) rfl ?_ | refine op_v (v_add rfl rfl) rfl ?_
            refine op_v (v_assign rfl) rfl ?_
            refine ops_nil ?_
            refine post_again (ys.length - (j + 1)) [(1, .pointer (some ⟨b1, 0, none⟩)), (3, .slice ar zs.length cr), (4, .int .i64 k), (5, .slice yd ys.length yc), (6, .int .i64 (j + 1 : Nat))] (by omega) ⟨j + 1, ar, cr, zs, rfl, hltj, rfl, Imm.leA, rfl, ?_, by omega⟩ ⟨rfl, rfl, rfl, rfl, rfl, trivial⟩
            intro n
            rw [List.take_succ_eq_append_getElem hltj, List.mem_append, List.mem_singleton, hzs n]
            constructor
            · rintro (h | h) <;> simp [h]
            · rintro (h | h | h)
              · exact .inl h
              · exact .inr h
              · subst h; exact (hzs _).1 hm41
          · rw [show decide (ys[j] ∈ zs) = false by simpa using hm41]
            refine op_v (v_not rfl) rfl ?_
            refine ops_nil ?_
            refine post_next ?_
            refine code_cond_t rfl ?_
            refine code_region ?_
            refine op_v (v_move rfl) rfl ?_
            refine op_v (v_move rfl) rfl ?_
            refine op_v (v_move rfl) rfl ?_
            first | refine op_v (v_indexA Try.underlying42 sz3 rfl rfl) rfl ?_ | refine op_v (v_indexIA Try.underlying42 sz3 rfl rfl) rfl ?_
            first | refine op_v (v_loadI0 ty3 ((ints_at hyat j hltj).mono Imm.leA) rfl rfl rfl) rfl ?_ | refine op_v (v_loadI ty3 ((ints_at hyat j hltj).mono Imm.leA) rfl rfl rfl) rfl ?_
            refine o_buildSlice (xs := [(Go.Operand.tmp 46)]) Try.underlying42 bs3 rfl rfl rfl rfl rfl (fun b47 => ?_)
            refine o_append Try.underlying42 bs3 rfl rfl rfl (fun v' => by repeat (first | exact Swap.here | apply Swap.there)) (Src.ofRow (by repeat (first | exact Has.here | apply Has.there)) rfl) (by first | rfl | omega | simp) (by simp [cat, cellsL, Value.oneCell']) (by omega) (by omega) (fun a48 c48 => ?_)
            refine op_v (v_assign rfl) rfl ?_
            refine ops_nil ?_
            refine post_out ?_
            refine post_next ?_
            refine code_region ?_
            refine op_v (v_move rfl) rfl ?_
            first | refine op_v (v_addb rfl rfl rfl (by omega)) rfl ?_ | refine op_v (v_add rfl rfl) rfl ?_
            refine op_v (v_assign rfl) rfl ?_
            refine ops_nil ?_
            refine PostJ.view (View.drop Del.here) ?_
            refine post_again (ys.length - (j + 1)) [(1, .pointer (some ⟨b1, 0, none⟩)), (3, .slice a48 (zs.length + 1) c48), (4, .int .i64 k), (5, .slice yd ys.length yc), (6, .int .i64 (j + 1 : Nat))] (by omega) ⟨j + 1, a48, c48, zs ++ [ys[j]], rfl, hltj, by simp, Imm.leA, by simp [iRow, cat, cellsL], ?_, by simp; omega⟩ ⟨rfl, rfl, rfl, rfl, rfl, trivial⟩
            intro n
            rw [List.take_succ_eq_append_getElem hltj, List.mem_append, List.mem_append, List.mem_singleton, hzs n, or_assoc]
        · have hgej : j = ys.length := by simp at hc2; omega
          refine code_exit ?_
          refine post_exit_then ?_
          refine post_exit_then ?_
          refine post_exit ?_
          refine post_out ?_
          refine post_next ?_
          refine code_region ?_
          refine op_v (v_move rfl) rfl ?_
          first | refine op_v (v_addb rfl rfl rfl (by omega)) rfl ?_ | refine op_v (v_add rfl rfl) rfl ?_
          refine op_v (v_assign rfl) rfl ?_
          refine ops_nil ?_
          refine post_again (ts.length - (k + 1)) [(1, .pointer (some ⟨b1, 0, none⟩)), (3, .slice ar zs.length cr), (4, .int .i64 (k + 1 : Nat))] (by omega) ⟨k + 1, ar, cr, zs, rfl, hlt, rfl, Imm.leA, rfl, ?_, by omega⟩ ⟨rfl, rfl, rfl, trivial⟩
          intro n
          rw [hzs n, hgej, List.take_length, hxs n, hys n, List.take_succ_eq_append_getElem hlt, List.flatMap_append, List.mem_append]
          simp only [List.flatMap_cons, List.flatMap_nil, List.append_nil]
          constructor
          · rintro (⟨h1, h2 | h2⟩ | ⟨h1, h2⟩)
            · exact ⟨h1, .inl h2⟩
            · exact ⟨h1, .inr (.inl h2)⟩
            · exact ⟨h1, .inr (.inr h2)⟩
          · rintro ⟨h1, h2 | h2 | h2⟩
            · exact .inl ⟨h1, .inl h2⟩
            · exact .inl ⟨h1, .inr h2⟩
            · exact .inr ⟨h1, h2⟩
      · have hge : k = ts.length := by simp at hc1; omega
        refine code_exit ?_
        refine post_exit_then ?_
        refine post_exit_then ?_
        refine post_exit ?_
        refine post_next ?_
        refine code_seq ?_
        refine code_region ?_
        refine OpsJ.freezeRow Del.here ?_
        rintro I49 ar2 cr2 hI49 hvr hcr hlr hcells
        cases hvr
        subst hge
        rw [List.take_length] at hxs hxl
        refine op_v (v_move rfl) rfl ?_
        refine op_v (v_assign rfl) rfl ?_
        refine ops_nil ?_
        refine post_next ?_
        refine code_ret ?_
        refine post_ret (rs := [.tmp 2]) rfl (List.Perm.refl _) (.cons (.tmp rfl) .nil) (List.nil_sublist _) ?_
        exact ⟨⟨xs, RInts.of rfl hcr (by omega) hcells (fun n hn => by have h0 := (hxs n).1 hn; have h1 := repT_heads hv (k := -1 - n) (by rw [hds_eq]; rcases h0.2 with e | e; (rw [e]; exact List.mem_cons_self ..); exact List.mem_cons_of_mem _ e); unfold InR at *; omega), fun n => by rw [hxs n, hds_eq, List.mem_cons], by rw [hsz]; exact hxl⟩, rfl⟩
theorem RCount_does : ∀ (n : Nat) (t : T), t.size ≤ n → t.size ≤ 1000000000 → ∀ (I : Imm) (v : Value) (k : Int), RepT I v t → 0 ≤ k → k ≤ 1000000000 →
    Does Try.prog 132 [v, .int .i64 k] I [] (fun v I' δ' => v = .int .i64 (cn t (-1 - k) : Nat) ∧ δ' = []) := by
  intro n
  induction n with
  | zero => intro t ht; have := t.size_pos; omega
  | succ n ih =>
    intro t ht hbig I v q hv hq0 hq1
    obtain ⟨h, ts⟩ := t
    obtain ⟨ad, c, ss, rfl, hr, hc, hb, hat, hsub⟩ := hv.elim
    have hsz : (T.mk h ts).size = 1 + sizeL ts := by simp [T.size]
    have hcl : ∀ k, cnV (visL (ts.take k)) (-1 - q) ≤ sizeL (ts.take k) := fun k => by
      have h1 : cnV (visL (ts.take k)) (-1 - q) ≤ ((visL (ts.take k)).map (·.2.head)).length := List.count_le_length
      rwa [List.length_map, visL_length] at h1
    refine Does.intro Try.func132 rfl Try.ntmps132 rfl fun w0 => ?_
    refine code_seq ?_
    refine code_region ?_
    refine o_box rfl rfl rfl (fun b2 => ?_)
    refine op_v (v_assign rfl) rfl ?_
    refine ops_nil ?_
    refine post_next ?_
    refine code_seq ?_
    refine code_region ?_
    refine op_v (v_assign rfl) rfl ?_
    refine ops_nil ?_
    refine post_next ?_
    refine code_seq_meet (fun σ' I' δ' => σ' = [(1, .int .i64 q), (2, .pointer (some ⟨b2, 0, none⟩)), (5, .int .i64 ((if h = -1 - q then 1 else 0 : Nat) : Int))] ∧ I = I' ∧ δ' = [.box b2 25 [.int .i64 h, .slice ad ts.length c]]) ?_ ?_
    · refine code_seq ?_
      refine code_region ?_
      first | refine op_v (v_fieldB 0 Try.underlying25 rfl rfl fz3 rfl) rfl ?_ | refine op_v (v_fieldI 0 Try.underlying25 rfl rfl fz3 rfl (by assumption)) rfl ?_ | refine op_v (v_field Try.underlying25 rfl fz3 rfl rfl) rfl ?_
      refine op_v (v_loadA ty3 rfl rfl) rfl ?_
      refine op_v (v_move rfl) rfl ?_
      first | refine op_v (v_subb rfl rfl rfl (by omega)) rfl ?_ | refine op_v (v_sub rfl rfl) rfl ?_
      by_cases h11 : h = -1 - q
      · first | refine op_v (v_cmptA rfl rfl rfl) rfl ?_ | refine op_v (v_cmpfA rfl rfl rfl) rfl ?_ | refine op_v (v_cmp rfl rfl rfl) rfl ?_
        refine ops_nil ?_
        refine post_next ?_
        refine code_cond_t rfl ?_
        refine code_region ?_
        refine op_v (v_assign rfl) rfl ?_
        refine ops_nil ?_
        refine post_meet [(1, .int .i64 q), (2, .pointer (some ⟨b2, 0, none⟩)), (5, .int .i64 1)] ⟨by rw [if_pos h11]; rfl, rfl, rfl⟩ ⟨rfl, rfl, rfl, trivial⟩
      · first | refine op_v (v_cmptA rfl rfl rfl) rfl ?_ | refine op_v (v_cmpfA rfl rfl rfl) rfl ?_ | refine op_v (v_cmp rfl rfl rfl) rfl ?_
        refine ops_nil ?_
        refine post_next ?_
        refine code_cond_f rfl ?_
        refine code_skip ?_
        refine post_meet [(1, .int .i64 q), (2, .pointer (some ⟨b2, 0, none⟩)), (5, .int .i64 0)] ⟨by rw [if_neg h11]; rfl, rfl, rfl⟩ ⟨rfl, rfl, rfl, trivial⟩
    · rintro _ _ _ ⟨rfl, rfl, rfl⟩
      refine code_seq ?_
      refine code_seq ?_
      refine code_region ?_
      refine op_v (v_assign rfl) rfl ?_
      refine ops_nil ?_
      refine post_next ?_
      refine code_block ?_
      refine code_loop (fun m σ' I' δ' => ∃ k : Nat, m = ts.length - k ∧ k ≤ ts.length ∧ σ' = [(1, .int .i64 q), (2, .pointer (some ⟨b2, 0, none⟩)), (5, .int .i64 (((if h = -1 - q then 1 else 0) + cnV (visL (ts.take k)) (-1 - q) : Nat) : Int)), (6, .int .i64 k)] ∧ I.le I' ∧ δ' = [.box b2 25 [.int .i64 h, .slice ad ts.length c]]) ts.length [(1, .int .i64 q), (2, .pointer (some ⟨b2, 0, none⟩)), (5, .int .i64 ((if h = -1 - q then 1 else 0 : Nat) : Int)), (6, .int .i64 (0 : Nat))] ⟨0, rfl, Nat.zero_le _, by simp [visL, cnV], Imm.le_refl _, rfl⟩ ⟨rfl, rfl, rfl, rfl, trivial⟩ ?_
      rintro m _ I0 _ ⟨k, rfl, hk, rfl, hI0, rfl⟩
      have hck := hcl k
      refine code_seq ?_
      refine code_seq ?_
      refine code_region ?_
      refine op_v (v_move rfl) rfl ?_
      first | refine op_v (v_fieldB 1 Try.underlying25 rfl rfl fz23 rfl) rfl ?_ | refine op_v (v_fieldI 1 Try.underlying25 rfl rfl fz23 rfl (by assumption)) rfl ?_ | refine op_v (v_field Try.underlying25 rfl fz23 rfl rfl) rfl ?_
      refine op_v (v_loadA ty23 rfl rfl) rfl ?_
      refine op_v (v_len Try.underlying23 rfl) rfl ?_
      first | refine op_v (v_cmptA rfl rfl rfl) rfl ?_ | refine op_v (v_cmpfA rfl rfl rfl) rfl ?_ | refine op_v (v_cmp rfl rfl rfl) rfl ?_
      refine ops_nil ?_
      refine post_next ?_
      refine code_cond rfl (fun hc1 => ?_) (fun hc1 => ?_)
      · have hlt : k < ts.length := by simpa using hc1
        have hs1 := (hat k hlt).isSome
        have hm := sizeL_mem ts k hlt
        have hsd : sizeL (ts.take k) + sizeL (ts.drop k) = sizeL ts := by rw [← sizeL_app, List.take_append_drop]
        have hsd2 := sizeL_drop ts k hlt
        have hcl2 : cn ts[k] (-1 - q) ≤ ts[k].size := by rw [← hds_length]; exact List.count_le_length
        refine code_skip ?_
        refine post_next ?_
        refine code_seq ?_
        refine code_block ?_
        refine code_region ?_
        refine op_v (v_move rfl) rfl ?_
        first | refine op_v (v_fieldB 1 Try.underlying25 rfl rfl fz23 rfl) rfl ?_ | refine op_v (v_fieldI 1 Try.underlying25 rfl rfl fz23 rfl (by assumption)) rfl ?_ | refine op_v (v_field Try.underlying25 rfl fz23 rfl rfl) rfl ?_
        refine op_v (v_loadA ty23 rfl rfl) rfl ?_
        refine op_v (v_move rfl) rfl ?_
        first | refine op_v (v_indexA Try.underlying23 sz25 rfl rfl) rfl ?_ | refine op_v (v_indexIA Try.underlying23 sz25 rfl rfl) rfl ?_
        first | refine op_v (v_loadI0 ty25 ((hat k hlt).mono hI0) rfl rfl rfl) rfl ?_ | refine op_v (v_loadI ty25 ((hat k hlt).mono hI0) rfl rfl rfl) rfl ?_
        refine op_v (v_move rfl) rfl ?_
        refine op_call pl132 rfl rfl ((ih ts[k] (by omega) (by omega) _ _ _ ((hsub k hlt).mono hI0) hq0 hq1)) Parts.none ?_
        rintro _ I26 _ hI26 ⟨rfl, rfl⟩
        have hif : (if h = -1 - q then 1 else 0 : Nat) ≤ 1 := by split <;> omega
        first | refine op_v (v_addb rfl rfl rfl (by omega)) rfl ?_ | refine op_v (v_add rfl rfl) rfl ?_
        refine op_v (v_assign rfl) rfl ?_
        refine ops_nil ?_
        refine post_out ?_
        refine post_next ?_
        refine code_region ?_
        refine op_v (v_move rfl) rfl ?_
        first | refine op_v (v_addb rfl rfl rfl (by omega)) rfl ?_ | refine op_v (v_add rfl rfl) rfl ?_
        refine op_v (v_assign rfl) rfl ?_
        refine ops_nil ?_
        refine post_again (ts.length - (k + 1)) [(1, .int .i64 q), (2, .pointer (some ⟨b2, 0, none⟩)), (5, .int .i64 ((((if h = -1 - q then 1 else 0) + cnV (visL (ts.take k)) (-1 - q) : Nat) : Int) + (cn ts[k] (-1 - q) : Nat))), (6, .int .i64 (k + 1 : Nat))] (by omega) ⟨k + 1, rfl, hlt, by rw [visL_take ts k hlt, cnV_app, cnV_T]; congr 4; simp [Int.add_assoc], Imm.leA, rfl⟩ ⟨rfl, rfl, rfl, rfl, trivial⟩
      · have hge : k = ts.length := by simp at hc1; omega
        refine code_exit ?_
        refine post_exit_then ?_
        refine post_exit_then ?_
        refine post_exit ?_
        refine post_next ?_
        refine code_seq ?_
        refine code_region ?_
        refine op_v (v_move rfl) rfl ?_
        refine op_v (v_assign rfl) rfl ?_
        refine ops_nil ?_
        refine post_next ?_
        refine code_ret ?_
        refine post_ret (rs := [.tmp 4]) rfl (List.Perm.refl _) (.cons (.tmp rfl) .nil) (List.nil_sublist _) ?_
        exact ⟨by rw [cn_eq, hge, List.take_length]; rfl, rfl⟩
end Go.Proofs.Ytegceppoioeeaaa
