/- Walks: a heap answers a script as the document's does. -/
import Derived.Test.YthbcdffldcdfoaaZ3
set_option linter.unusedVariables false
set_option linter.unusedSimpArgs false
set_option linter.unnecessarySimpa false
/- short -/
namespace Go.Proofs.Ythbcdffldcdfoaa
open Go Lg

theorem three {I : Imm} {A : Option Addr} {k : Nat} {r : List Int} (hl : r.length = 3) (h : At I A k (r.map (Value.int .i64))) : ∃ a b c : Int, At I A k [.int .i64 a, .int .i64 b, .int .i64 c] := by
  rcases r with _ | ⟨a, _ | ⟨b, _ | ⟨c, _ | ⟨_, _⟩⟩⟩⟩ <;> simp at hl
  exact ⟨a, b, c, h⟩
theorem HeapDoes_does {I : Imm} {v : Value} {rs : List (List Int)} (hv : RepN I v 3 rs) :
    Does Try.prog 5 [v] I [] (fun v I' δ' => v = .bool true ∧ δ' = []) := by
  obtain ⟨A, c, rfl, hc, hb, hat⟩ := hv
  refine Does.intro Try.func5 rfl Try.ntmps5 rfl fun w0 => ?_
  refine code_seq ?_
  refine code_region ?_
  refine op_v (v_assign rfl) rfl ?_
  refine ops_nil ?_
  refine post_next ?_
  refine code_seq ?_
  refine code_seq ?_
  refine code_region ?_
  refine op_v (v_move rfl) rfl ?_
  refine op_v (v_len Try.underlying47 rfl) rfl ?_
  by_cases h14 : 200 < rs.length
  · first | refine op_v (v_cmptA rfl rfl rfl) rfl ?_ | refine op_v (v_cmpfA rfl rfl rfl) rfl ?_ | refine op_v (v_cmp rfl rfl rfl) rfl ?_
    refine ops_nil ?_
    refine post_next ?_
    refine code_cond_t rfl ?_
    refine code_seq ?_
    refine code_region ?_
    refine op_v (v_assign rfl) rfl ?_
    refine ops_nil ?_
    refine post_next ?_
    refine code_ret ?_
    refine post_ret_then ?_
    refine post_ret (rs := [.tmp 2]) rfl (List.Perm.refl _) (.cons (.tmp rfl) .nil) (List.nil_sublist _) ?_
    exact ⟨rfl, rfl⟩
  · first | refine op_v (v_cmptA rfl rfl rfl) rfl ?_ | refine op_v (v_cmpfA rfl rfl rfl) rfl ?_ | refine op_v (v_cmp rfl rfl rfl) rfl ?_
    refine ops_nil ?_
    refine post_next ?_
    refine code_cond_f rfl ?_
    refine code_skip ?_
    refine post_next ?_
    refine code_seq ?_
    refine code_region ?_
    refine op_call pl23 rfl rfl ((HNew_does _)) Parts.none ?_
    rintro v15 I15 _ hI15 ⟨hb, mb, rfl, rfl⟩
    refine op_v (v_assign rfl) rfl ?_
    refine ops_nil ?_
    refine post_next ?_
    refine code_seq ?_
    refine code_region ?_
    refine op_v (v_build bl53 rfl rfl) rfl ?_
    refine o_box rfl rfl rfl (fun b17 => ?_)
    refine OpsJ.view (View.nilRow 57 2) ?_
    refine OpsJ.view (View.perm (List.Perm.swap _ _ _)) ?_
    refine op_v (v_assign rfl) rfl ?_
    refine ops_nil ?_
    refine post_next ?_
    refine code_seq ?_
    refine code_seq ?_
    refine code_region ?_
    refine op_v (v_move rfl) rfl ?_
    refine op_v (v_ptrq (z := false) Try.underlying48 rfl rfl rfl) rfl ?_
    refine ops_nil ?_
    refine post_next ?_
    refine code_cond_f rfl ?_
    refine code_skip ?_
    refine post_next ?_
    refine code_seq ?_
    refine code_seq ?_
    refine code_region ?_
    refine op_v (v_assign rfl) rfl ?_
    refine ops_nil ?_
    refine post_next ?_
    refine code_block ?_
    refine code_loop (fun m σ' I' δ' => ∃ (k : Nat) (A1 : Option Addr) (c1 : Nat) (xs : List It) (mp : Mp) (A2 : Option Addr) (c2 : Nat) (ys : List It), m = rs.length - k ∧ k ≤ rs.length ∧ σ' = [(0, .slice A rs.length c), (3, .pointer (some ⟨hb, 0, none⟩)), (4, .pointer (some ⟨b17, 0, none⟩)), (5, .int .i64 k)] ∧ I15.le I' ∧ δ' = RHE b17 53 [] A2 c2 ys ++ HeapE hb mb A1 c1 xs mp ∧ xs.length ≤ 4096 ∧ AtOK xs mp ∧ IsHeap xs ∧ xs.Perm ys) rs.length [(0, .slice A rs.length c), (3, .pointer (some ⟨hb, 0, none⟩)), (4, .pointer (some ⟨b17, 0, none⟩)), (5, .int .i64 (0 : Nat))] ⟨0, none, 0, [], [], none, 0, [], rfl, by omega, rfl, Imm.le_refl _, rfl, by simp, ⟨(fun j h => absurd h (by simp)), fun _ _ => rfl⟩, (fun j _ h => absurd h (by simp)), List.Perm.refl _⟩ ⟨rfl, rfl, rfl, rfl, trivial⟩ ?_
    rintro m _ I1 _ ⟨k, A1, c1, xs, mp, A2, c2, ys, rfl, hk, rfl, hI1, rfl, hxl, hok, hhp, hp⟩
    have hyl := hp.length_eq
    refine code_seq ?_
    refine code_seq ?_
    refine code_region ?_
    refine op_v (v_move rfl) rfl ?_
    refine op_v (v_move rfl) rfl ?_
    refine op_v (v_len Try.underlying47 rfl) rfl ?_
    first | refine op_v (v_cmptA rfl rfl rfl) rfl ?_ | refine op_v (v_cmpfA rfl rfl rfl) rfl ?_ | refine op_v (v_cmp rfl rfl rfl) rfl ?_
    refine ops_nil ?_
    refine post_next ?_
    refine code_cond rfl (fun hc2 => ?_) (fun hc2 => ?_)
    · have hlt : k < rs.length := by have h := hc2; simp at h; omega
      obtain ⟨w, id, ke, hst⟩ := three (hat k hlt).1 (hat k hlt).2
      have hs1 := hst.isSome
      refine code_skip ?_
      refine post_next ?_
      refine code_seq ?_
      refine code_block ?_
      refine code_seq ?_
      refine code_region ?_
      refine op_v (v_move rfl) rfl ?_
      refine op_v (v_move rfl) rfl ?_
      first | refine op_v (v_indexA Try.underlying47 sz55 rfl rfl) rfl ?_ | refine op_v (v_indexIA Try.underlying47 sz55 rfl rfl) rfl ?_
      first | refine op_v (v_loadI0 ty55 (hst.mono Imm.leA) rfl rfl rfl) rfl ?_ | refine op_v (v_loadI ty55 (hst.mono Imm.leA) rfl rfl rfl) rfl ?_
      refine o_alloc z55 rfl rfl (fun b6 => ?_)
      refine o_store ty55 rfl rfl rfl rfl rfl (by repeat (first | exact Swap.here | apply Swap.there)) rfl ?_
      refine ops_nil ?_
      refine post_next ?_
      refine code_seq ?_
      refine code_region ?_
      first | refine op_v (v_fieldB 2 Try.underlying55 rfl rfl fz3 rfl) rfl ?_ | refine op_v (v_fieldI 2 Try.underlying55 rfl rfl fz3 rfl (by assumption)) rfl ?_ | refine op_v (v_field Try.underlying55 rfl fz3 rfl rfl) rfl ?_
      refine op_v (v_loadA ty3 rfl rfl) rfl ?_
      first | refine op_v (v_fieldB 1 Try.underlying55 rfl rfl fz3 rfl) rfl ?_ | refine op_v (v_fieldI 1 Try.underlying55 rfl rfl fz3 rfl (by assumption)) rfl ?_ | refine op_v (v_field Try.underlying55 rfl fz3 rfl rfl) rfl ?_
      refine op_v (v_loadA ty3 rfl rfl) rfl ?_
      refine op_v (v_build bl57 rfl rfl) rfl ?_
      refine o_alloc z57 rfl rfl (fun b7 => ?_)
      refine o_store ty57 rfl rfl rfl rfl rfl (by repeat (first | exact Swap.here | apply Swap.there)) rfl ?_
      refine ops_nil ?_
      refine post_next ?_
      refine code_seq_meet (fun σ' I' δ' => ∃ (A1 : Option Addr) (c1 : Nat) (xs : List It) (mp : Mp) (A2 : Option Addr) (c2 : Nat) (ys : List It), σ' = [(0, .slice A rs.length c), (3, .pointer (some ⟨hb, 0, none⟩)), (4, .pointer (some ⟨b17, 0, none⟩)), (5, .int .i64 k)] ∧ I1.le I' ∧ δ' = RHE b17 53 [] A2 c2 ys ++ HeapE hb mb A1 c1 xs mp ∧ xs.length ≤ 4096 ∧ AtOK xs mp ∧ IsHeap xs ∧ xs.Perm ys) ?_ ?_
      · refine code_seq ?_
        refine code_draw (.fl 0 (.fl 1 (.fl 2 (.fl 3 (.fl 4 (.fl 5 (.fl 7 (.fl 8 (.ef 6 (.ef 9 (.fl 10 (.fl 11 (.fl 12 (.fl 13 (.fl 14 (.fl 15 (.fl 16 (.fl 17 (.fl 18 (.fl 19 (.fl 21 (.fl 22 (.fl 23 (.ef 20 (.ef 24 (.fl 25 (.fl 26 (.fl 27 .done)))))))))))))))))))))))))))) (fun _ => [.box b7 57 [.int .i64 ke, .int .i64 id], .box b6 55 [.int .i64 w, .int .i64 id, .int .i64 ke]]) mixed (by kernel_rfl) (by kernel_rfl) (fun _ => (List.Sublist.cons_cons _ (List.Sublist.cons_cons _ (List.nil_sublist _)))) ?_
        first | refine e_fl rfl rfl (fun hs_ => PF.mk rfl (v_fieldB 0 Try.underlying55 rfl rfl fz3 rfl) hs_) ?_ | refine e_fl rfl rfl (fun hs_ => PF.mk rfl (v_fieldI 0 Try.underlying55 rfl rfl fz3 rfl (by assumption)) hs_) ?_ | refine e_fl rfl rfl (fun hs_ => PF.mk rfl (v_field Try.underlying55 rfl fz3 rfl rfl) hs_) ?_
        refine e_fl rfl rfl (fun hs_ => PF.mk rfl (v_loadA ty3 rfl rfl) hs_) ?_
        by_cases h37 : w = 0
        · first | refine e_fl rfl rfl (fun hs_ => PF.mk rfl (v_cmptA rfl rfl rfl) hs_) ?_ | refine e_fl rfl rfl (fun hs_ => PF.mk rfl (v_cmpfA rfl rfl rfl) hs_) ?_ | refine e_fl rfl rfl (fun hs_ => PF.mk rfl (v_cmp rfl rfl rfl) hs_) ?_
          refine e_fl rfl rfl (fun hs_ => PF.mk rfl (v_move rfl) hs_) ?_
          first | refine e_fl rfl rfl (fun hs_ => PF.mkg rfl rfl rfl (v_move rfl) hs_) ?_ | refine e_fl rfl rfl (fun hs_ => PF.mks rfl (by intro c hc; cases hc) rfl rfl (by simp [undef]) hs_) ?_
          first | refine e_fl rfl rfl (fun hs_ => PF.mkg rfl rfl rfl (v_loadA ty57 rfl rfl) hs_) ?_ | refine e_fl rfl rfl (fun hs_ => PF.mks rfl (by intro c hc; cases hc) rfl rfl (by simp [undef]) hs_) ?_
          first | refine e_fl rfl rfl (fun hs_ => PF.mkg rfl rfl rfl (v_move rfl) hs_) ?_ | refine e_fl rfl rfl (fun hs_ => PF.mks rfl (by intro c hc; cases hc) rfl rfl (by simp [undef]) hs_) ?_
          first | refine e_fl rfl rfl (fun hs_ => PF.mkg rfl rfl rfl (v_loadA ty57 rfl rfl) hs_) ?_ | refine e_fl rfl rfl (fun hs_ => PF.mks rfl (by intro c hc; cases hc) rfl rfl (by simp [undef]) hs_) ?_
          refine e_eff rfl (by intro cs b hc; cases hc) (by intro c hc; cases hc) ?_
          first
            | (refine op_want rfl rfl ?_
               refine op_call pl24 rfl rfl ((HPut_does (x := (ke, id)) hxl hok hhp)) (List.perm_append_comm (l₁ := [_, _, _, _])) ?_
               rintro v41 I41 _ hI41 ⟨e41, A41, c41, xs41, mp41, rfl, hr41, hxl41, hok41, hhp41, rfl⟩
               refine OpsJ.view (View.perm (List.perm_append_comm (l₂ := [_, _, _, _]))) ?_)
            | (refine op_skip rfl rfl (by simp [undef]) rfl ?_)
          refine ops_nil ?_
          refine e_next rfl side_allA ?_
          refine e_eff rfl (by intro cs b hc; cases hc) (by intro c hc; cases hc) ?_
          first
            | (refine op_want rfl rfl ?_
               refine op_call pl25 rfl rfl ((RHPut_does (x := (ke, id)) (by omega))) (List.perm_append_comm (l₁ := [_, _])) ?_
               rintro v44 I44 _ hI44 ⟨e44, A44, c44, ys44, rfl, hr44, rfl⟩
               refine OpsJ.view (View.perm (List.perm_append_comm (l₁ := RHE b17 53 [] A44 c44 ys44 ++ HeapE hb mb A41 c41 xs41 mp41) (l₂ := [_, _]))) ?_
               obtain ⟨rfl, hp44⟩ := hr41.both hr44 hp)
            | (refine op_skip rfl rfl (by simp [undef]) rfl ?_)
          refine ops_nil ?_
          refine e_next rfl side_allA ?_
          first | refine e_fl rfl rfl (fun hs_ => PF.mkg rfl rfl rfl (v_cmptA rfl rfl rfl) hs_) ?_ | refine e_fl rfl rfl (fun hs_ => PF.mkg rfl rfl rfl (v_cmpfA rfl rfl rfl) hs_) ?_ | refine e_fl rfl rfl (fun hs_ => PF.mkg rfl rfl rfl (v_cmp rfl rfl rfl) hs_) ?_ | refine e_fl rfl rfl (fun hs_ => PF.mks rfl (by intro c hc; cases hc) rfl rfl (by simp [undef]) hs_) ?_
          first | refine e_fl rfl rfl (fun hs_ => PF.mk rfl (v_pickt rfl rfl) hs_) ?_ | refine e_fl rfl rfl (fun hs_ => PF.mk rfl (v_pickf rfl rfl) hs_) ?_ | refine e_fl rfl rfl (fun hs_ => PF.mk rfl (v_pickb rfl rfl rfl) hs_) ?_
          refine e_fl rfl rfl (fun hs_ => PF.mk rfl (v_move rfl) hs_) ?_
          first | refine e_fl rfl rfl (fun hs_ => PF.mkg rfl rfl rfl (v_fieldB 0 Try.underlying55 rfl rfl fz3 rfl) hs_) ?_ | refine e_fl rfl rfl (fun hs_ => PF.mkg rfl rfl rfl (v_fieldI 0 Try.underlying55 rfl rfl fz3 rfl (by assumption)) hs_) ?_ | refine e_fl rfl rfl (fun hs_ => PF.mkg rfl rfl rfl (v_field Try.underlying55 rfl fz3 rfl rfl) hs_) ?_ | refine e_fl rfl rfl (fun hs_ => PF.mks rfl (by intro c hc; cases hc) rfl rfl (by simp [undef]) hs_) ?_
          first | refine e_fl rfl rfl (fun hs_ => PF.mkg rfl rfl rfl (v_loadA ty3 rfl rfl) hs_) ?_ | refine e_fl rfl rfl (fun hs_ => PF.mks rfl (by intro c hc; cases hc) rfl rfl (by simp [undef]) hs_) ?_
          first | refine e_fl rfl rfl (fun hs_ => PF.mkg rfl rfl rfl (v_cmptA rfl rfl rfl) hs_) ?_ | refine e_fl rfl rfl (fun hs_ => PF.mkg rfl rfl rfl (v_cmpfA rfl rfl rfl) hs_) ?_ | refine e_fl rfl rfl (fun hs_ => PF.mkg rfl rfl rfl (v_cmp rfl rfl rfl) hs_) ?_ | refine e_fl rfl rfl (fun hs_ => PF.mks rfl (by intro c hc; cases hc) rfl rfl (by simp [undef]) hs_) ?_
          first | refine e_fl rfl rfl (fun hs_ => PF.mkg rfl rfl rfl (v_move rfl) hs_) ?_ | refine e_fl rfl rfl (fun hs_ => PF.mks rfl (by intro c hc; cases hc) rfl rfl (by simp [undef]) hs_) ?_
          first | refine e_fl rfl rfl (fun hs_ => PF.mkg rfl rfl rfl (v_move rfl) hs_) ?_ | refine e_fl rfl rfl (fun hs_ => PF.mks rfl (by intro c hc; cases hc) rfl rfl (by simp [undef]) hs_) ?_
          first | refine e_fl rfl rfl (fun hs_ => PF.mkg rfl rfl rfl (v_fieldB 1 Try.underlying55 rfl rfl fz3 rfl) hs_) ?_ | refine e_fl rfl rfl (fun hs_ => PF.mkg rfl rfl rfl (v_fieldI 1 Try.underlying55 rfl rfl fz3 rfl (by assumption)) hs_) ?_ | refine e_fl rfl rfl (fun hs_ => PF.mkg rfl rfl rfl (v_field Try.underlying55 rfl fz3 rfl rfl) hs_) ?_ | refine e_fl rfl rfl (fun hs_ => PF.mks rfl (by intro c hc; cases hc) rfl rfl (by simp [undef]) hs_) ?_
          first | refine e_fl rfl rfl (fun hs_ => PF.mkg rfl rfl rfl (v_loadA ty3 rfl rfl) hs_) ?_ | refine e_fl rfl rfl (fun hs_ => PF.mks rfl (by intro c hc; cases hc) rfl rfl (by simp [undef]) hs_) ?_
          first | refine e_fl rfl rfl (fun hs_ => PF.mkg rfl rfl rfl (v_move rfl) hs_) ?_ | refine e_fl rfl rfl (fun hs_ => PF.mks rfl (by intro c hc; cases hc) rfl rfl (by simp [undef]) hs_) ?_
          first | refine e_fl rfl rfl (fun hs_ => PF.mkg rfl rfl rfl (v_fieldB 1 Try.underlying55 rfl rfl fz3 rfl) hs_) ?_ | refine e_fl rfl rfl (fun hs_ => PF.mkg rfl rfl rfl (v_fieldI 1 Try.underlying55 rfl rfl fz3 rfl (by assumption)) hs_) ?_ | refine e_fl rfl rfl (fun hs_ => PF.mkg rfl rfl rfl (v_field Try.underlying55 rfl fz3 rfl rfl) hs_) ?_ | refine e_fl rfl rfl (fun hs_ => PF.mks rfl (by intro c hc; cases hc) rfl rfl (by simp [undef]) hs_) ?_
          first | refine e_fl rfl rfl (fun hs_ => PF.mkg rfl rfl rfl (v_loadA ty3 rfl rfl) hs_) ?_ | refine e_fl rfl rfl (fun hs_ => PF.mks rfl (by intro c hc; cases hc) rfl rfl (by simp [undef]) hs_) ?_
          refine e_eff rfl (by intro cs b hc; cases hc) (by intro c hc; cases hc) ?_
          first
            | (refine op_want rfl rfl ?_
               refine op_call pl26 rfl rfl ((HDrop_does (id := id) hxl hok hhp)) (List.perm_append_comm (l₁ := [_, _, _, _])) ?_
               rintro v55 I55 _ hI55 ⟨z55, xs55, mp55, rfl, hr55, hxl55, hok55, hhp55, rfl⟩
               refine OpsJ.view (View.perm (List.perm_append_comm (l₂ := [_, _, _, _]))) ?_)
            | (refine op_skip rfl rfl (by simp [undef]) rfl ?_)
          refine ops_nil ?_
          refine e_next rfl side_allA ?_
          refine e_eff rfl (by intro cs b hc; cases hc) (by intro c hc; cases hc) ?_
          first
            | (refine op_want rfl rfl ?_
               refine op_call pl27 rfl rfl ((RHDrop_does (id := id) (by omega))) (List.perm_append_comm (l₁ := [_, _])) ?_
               rintro v59 I59 _ hI59 ⟨z59, A59, c59, ys59, rfl, hr59, rfl⟩
               refine OpsJ.view (View.perm (List.perm_append_comm (l₁ := RHE b17 53 [] A59 c59 ys59 ++ HeapE hb mb A1 c1 xs55 mp55) (l₂ := [_, _]))) ?_
               obtain ⟨rfl, hp59⟩ := hr55.both hr59 hp (nodup_ids hok))
            | (refine op_skip rfl rfl (by simp [undef]) rfl ?_)
          refine ops_nil ?_
          refine e_next rfl side_allA ?_
          first | refine e_fl rfl rfl (fun hs_ => PF.mkg rfl rfl rfl (v_eqb (z := false) Try.underlying4 rfl rfl (by simp [cmpB])) hs_) ?_ | refine e_fl rfl rfl (fun hs_ => PF.mks rfl (by intro c hc; cases hc) rfl rfl (by simp [undef]) hs_) ?_
          first | refine e_fl rfl rfl (fun hs_ => PF.mkg rfl rfl rfl (v_pickt rfl rfl) hs_) ?_ | refine e_fl rfl rfl (fun hs_ => PF.mkg rfl rfl rfl (v_pickf rfl rfl) hs_) ?_ | refine e_fl rfl rfl (fun hs_ => PF.mkg rfl rfl rfl (v_pickb rfl rfl rfl) hs_) ?_ | refine e_fl rfl rfl (fun hs_ => PF.mks rfl (by intro c hc; cases hc) rfl rfl (by simp [undef]) hs_) ?_
          first | refine e_fl rfl rfl (fun hs_ => PF.mk rfl (v_pickt rfl rfl) hs_) ?_ | refine e_fl rfl rfl (fun hs_ => PF.mk rfl (v_pickf rfl rfl) hs_) ?_ | refine e_fl rfl rfl (fun hs_ => PF.mk rfl (v_pickb rfl rfl rfl) hs_) ?_
          refine e_done ?_
          refine post_next ?_
          refine code_cond_f rfl ?_
          refine code_skip ?_
          refine PostJ.view (View.sub (List.Sublist.cons _ (List.Sublist.cons _ (List.Sublist.refl _)))) (post_meet _ ⟨A41, c41, xs41, mp41, A44, c44, ys44, rfl, Imm.leA, rfl, hxl41, hok41, hhp41, hp44⟩ ⟨rfl, rfl, rfl, rfl, trivial⟩)
        · first | refine e_fl rfl rfl (fun hs_ => PF.mk rfl (v_cmptA rfl rfl rfl) hs_) ?_ | refine e_fl rfl rfl (fun hs_ => PF.mk rfl (v_cmpfA rfl rfl rfl) hs_) ?_ | refine e_fl rfl rfl (fun hs_ => PF.mk rfl (v_cmp rfl rfl rfl) hs_) ?_
          refine e_fl rfl rfl (fun hs_ => PF.mk rfl (v_move rfl) hs_) ?_
          first | refine e_fl rfl rfl (fun hs_ => PF.mkg rfl rfl rfl (v_move rfl) hs_) ?_ | refine e_fl rfl rfl (fun hs_ => PF.mks rfl (by intro c hc; cases hc) rfl rfl (by simp [undef]) hs_) ?_
          first | refine e_fl rfl rfl (fun hs_ => PF.mkg rfl rfl rfl (v_loadA ty57 rfl rfl) hs_) ?_ | refine e_fl rfl rfl (fun hs_ => PF.mks rfl (by intro c hc; cases hc) rfl rfl (by simp [undef]) hs_) ?_
          first | refine e_fl rfl rfl (fun hs_ => PF.mkg rfl rfl rfl (v_move rfl) hs_) ?_ | refine e_fl rfl rfl (fun hs_ => PF.mks rfl (by intro c hc; cases hc) rfl rfl (by simp [undef]) hs_) ?_
          first | refine e_fl rfl rfl (fun hs_ => PF.mkg rfl rfl rfl (v_loadA ty57 rfl rfl) hs_) ?_ | refine e_fl rfl rfl (fun hs_ => PF.mks rfl (by intro c hc; cases hc) rfl rfl (by simp [undef]) hs_) ?_
          refine e_eff rfl (by intro cs b hc; cases hc) (by intro c hc; cases hc) ?_
          first
            | (refine op_want rfl rfl ?_
               refine op_call pl24 rfl rfl ((HPut_does (x := (ke, id)) hxl hok hhp)) (List.perm_append_comm (l₁ := [_, _, _, _])) ?_
               rintro v41 I41 _ hI41 ⟨e41, A41, c41, xs41, mp41, rfl, hr41, hxl41, hok41, hhp41, rfl⟩
               refine OpsJ.view (View.perm (List.perm_append_comm (l₂ := [_, _, _, _]))) ?_)
            | (refine op_skip rfl rfl (by simp [undef]) rfl ?_)
          refine ops_nil ?_
          refine e_next rfl side_allA ?_
          refine e_eff rfl (by intro cs b hc; cases hc) (by intro c hc; cases hc) ?_
          first
            | (refine op_want rfl rfl ?_
               refine op_call pl25 rfl rfl ((RHPut_does (x := (ke, id)) (by omega))) (List.perm_append_comm (l₁ := [_, _])) ?_
               rintro v44 I44 _ hI44 ⟨e44, A44, c44, ys44, rfl, hr44, rfl⟩
               refine OpsJ.view (View.perm (List.perm_append_comm (l₁ := RHE b17 53 [] A44 c44 ys44 ++ HeapE hb mb A41 c41 xs41 mp41) (l₂ := [_, _]))) ?_
               obtain ⟨rfl, hp44⟩ := hr41.both hr44 hp)
            | (refine op_skip rfl rfl (by simp [undef]) rfl ?_)
          refine ops_nil ?_
          refine e_next rfl side_allA ?_
          first | refine e_fl rfl rfl (fun hs_ => PF.mkg rfl rfl rfl (v_cmptA rfl rfl rfl) hs_) ?_ | refine e_fl rfl rfl (fun hs_ => PF.mkg rfl rfl rfl (v_cmpfA rfl rfl rfl) hs_) ?_ | refine e_fl rfl rfl (fun hs_ => PF.mkg rfl rfl rfl (v_cmp rfl rfl rfl) hs_) ?_ | refine e_fl rfl rfl (fun hs_ => PF.mks rfl (by intro c hc; cases hc) rfl rfl (by simp [undef]) hs_) ?_
          first | refine e_fl rfl rfl (fun hs_ => PF.mk rfl (v_pickt rfl rfl) hs_) ?_ | refine e_fl rfl rfl (fun hs_ => PF.mk rfl (v_pickf rfl rfl) hs_) ?_ | refine e_fl rfl rfl (fun hs_ => PF.mk rfl (v_pickb rfl rfl rfl) hs_) ?_
          refine e_fl rfl rfl (fun hs_ => PF.mk rfl (v_move rfl) hs_) ?_
          first | refine e_fl rfl rfl (fun hs_ => PF.mkg rfl rfl rfl (v_fieldB 0 Try.underlying55 rfl rfl fz3 rfl) hs_) ?_ | refine e_fl rfl rfl (fun hs_ => PF.mkg rfl rfl rfl (v_fieldI 0 Try.underlying55 rfl rfl fz3 rfl (by assumption)) hs_) ?_ | refine e_fl rfl rfl (fun hs_ => PF.mkg rfl rfl rfl (v_field Try.underlying55 rfl fz3 rfl rfl) hs_) ?_ | refine e_fl rfl rfl (fun hs_ => PF.mks rfl (by intro c hc; cases hc) rfl rfl (by simp [undef]) hs_) ?_
          first | refine e_fl rfl rfl (fun hs_ => PF.mkg rfl rfl rfl (v_loadA ty3 rfl rfl) hs_) ?_ | refine e_fl rfl rfl (fun hs_ => PF.mks rfl (by intro c hc; cases hc) rfl rfl (by simp [undef]) hs_) ?_
          by_cases h50 : w = 2
          · first | refine e_fl rfl rfl (fun hs_ => PF.mkg rfl rfl rfl (v_cmptA rfl rfl rfl) hs_) ?_ | refine e_fl rfl rfl (fun hs_ => PF.mkg rfl rfl rfl (v_cmpfA rfl rfl rfl) hs_) ?_ | refine e_fl rfl rfl (fun hs_ => PF.mkg rfl rfl rfl (v_cmp rfl rfl rfl) hs_) ?_ | refine e_fl rfl rfl (fun hs_ => PF.mks rfl (by intro c hc; cases hc) rfl rfl (by simp [undef]) hs_) ?_
            first | refine e_fl rfl rfl (fun hs_ => PF.mkg rfl rfl rfl (v_move rfl) hs_) ?_ | refine e_fl rfl rfl (fun hs_ => PF.mks rfl (by intro c hc; cases hc) rfl rfl (by simp [undef]) hs_) ?_
            first | refine e_fl rfl rfl (fun hs_ => PF.mkg rfl rfl rfl (v_move rfl) hs_) ?_ | refine e_fl rfl rfl (fun hs_ => PF.mks rfl (by intro c hc; cases hc) rfl rfl (by simp [undef]) hs_) ?_
            first | refine e_fl rfl rfl (fun hs_ => PF.mkg rfl rfl rfl (v_fieldB 1 Try.underlying55 rfl rfl fz3 rfl) hs_) ?_ | refine e_fl rfl rfl (fun hs_ => PF.mkg rfl rfl rfl (v_fieldI 1 Try.underlying55 rfl rfl fz3 rfl (by assumption)) hs_) ?_ | refine e_fl rfl rfl (fun hs_ => PF.mkg rfl rfl rfl (v_field Try.underlying55 rfl fz3 rfl rfl) hs_) ?_ | refine e_fl rfl rfl (fun hs_ => PF.mks rfl (by intro c hc; cases hc) rfl rfl (by simp [undef]) hs_) ?_
            first | refine e_fl rfl rfl (fun hs_ => PF.mkg rfl rfl rfl (v_loadA ty3 rfl rfl) hs_) ?_ | refine e_fl rfl rfl (fun hs_ => PF.mks rfl (by intro c hc; cases hc) rfl rfl (by simp [undef]) hs_) ?_
            first | refine e_fl rfl rfl (fun hs_ => PF.mkg rfl rfl rfl (v_move rfl) hs_) ?_ | refine e_fl rfl rfl (fun hs_ => PF.mks rfl (by intro c hc; cases hc) rfl rfl (by simp [undef]) hs_) ?_
            first | refine e_fl rfl rfl (fun hs_ => PF.mkg rfl rfl rfl (v_fieldB 1 Try.underlying55 rfl rfl fz3 rfl) hs_) ?_ | refine e_fl rfl rfl (fun hs_ => PF.mkg rfl rfl rfl (v_fieldI 1 Try.underlying55 rfl rfl fz3 rfl (by assumption)) hs_) ?_ | refine e_fl rfl rfl (fun hs_ => PF.mkg rfl rfl rfl (v_field Try.underlying55 rfl fz3 rfl rfl) hs_) ?_ | refine e_fl rfl rfl (fun hs_ => PF.mks rfl (by intro c hc; cases hc) rfl rfl (by simp [undef]) hs_) ?_
            first | refine e_fl rfl rfl (fun hs_ => PF.mkg rfl rfl rfl (v_loadA ty3 rfl rfl) hs_) ?_ | refine e_fl rfl rfl (fun hs_ => PF.mks rfl (by intro c hc; cases hc) rfl rfl (by simp [undef]) hs_) ?_
            refine e_eff rfl (by intro cs b hc; cases hc) (by intro c hc; cases hc) ?_
            first
              | (refine op_want rfl rfl ?_
                 refine op_call pl26 rfl rfl ((HDrop_does (id := id) hxl hok hhp)) (List.perm_append_comm (l₁ := [_, _, _, _])) ?_
                 rintro v55 I55 _ hI55 ⟨z55, xs55, mp55, rfl, hr55, hxl55, hok55, hhp55, rfl⟩
                 refine OpsJ.view (View.perm (List.perm_append_comm (l₂ := [_, _, _, _]))) ?_)
              | (refine op_skip rfl rfl (by simp [undef]) rfl ?_)
            refine ops_nil ?_
            refine e_next rfl side_allA ?_
            refine e_eff rfl (by intro cs b hc; cases hc) (by intro c hc; cases hc) ?_
            first
              | (refine op_want rfl rfl ?_
                 refine op_call pl27 rfl rfl ((RHDrop_does (id := id) (by omega))) (List.perm_append_comm (l₁ := [_, _])) ?_
                 rintro v59 I59 _ hI59 ⟨z59, A59, c59, ys59, rfl, hr59, rfl⟩
                 refine OpsJ.view (View.perm (List.perm_append_comm (l₁ := RHE b17 53 [] A59 c59 ys59 ++ HeapE hb mb A1 c1 xs55 mp55) (l₂ := [_, _]))) ?_
                 obtain ⟨rfl, hp59⟩ := hr55.both hr59 hp (nodup_ids hok))
              | (refine op_skip rfl rfl (by simp [undef]) rfl ?_)
            refine ops_nil ?_
            refine e_next rfl side_allA ?_
            first | refine e_fl rfl rfl (fun hs_ => PF.mkg rfl rfl rfl (v_eqb (z := false) Try.underlying4 rfl rfl (by simp [cmpB])) hs_) ?_ | refine e_fl rfl rfl (fun hs_ => PF.mks rfl (by intro c hc; cases hc) rfl rfl (by simp [undef]) hs_) ?_
            first | refine e_fl rfl rfl (fun hs_ => PF.mkg rfl rfl rfl (v_pickt rfl rfl) hs_) ?_ | refine e_fl rfl rfl (fun hs_ => PF.mkg rfl rfl rfl (v_pickf rfl rfl) hs_) ?_ | refine e_fl rfl rfl (fun hs_ => PF.mkg rfl rfl rfl (v_pickb rfl rfl rfl) hs_) ?_ | refine e_fl rfl rfl (fun hs_ => PF.mks rfl (by intro c hc; cases hc) rfl rfl (by simp [undef]) hs_) ?_
            first | refine e_fl rfl rfl (fun hs_ => PF.mk rfl (v_pickt rfl rfl) hs_) ?_ | refine e_fl rfl rfl (fun hs_ => PF.mk rfl (v_pickf rfl rfl) hs_) ?_ | refine e_fl rfl rfl (fun hs_ => PF.mk rfl (v_pickb rfl rfl rfl) hs_) ?_
            refine e_done ?_
            refine post_next ?_
            refine code_cond_f rfl ?_
            refine code_skip ?_
            refine PostJ.view (View.sub (List.Sublist.cons _ (List.Sublist.cons _ (List.Sublist.refl _)))) (post_meet _ ⟨A1, c1, xs55, mp55, A59, c59, ys59, rfl, Imm.leA, rfl, hxl55, hok55, hhp55, hp59⟩ ⟨rfl, rfl, rfl, rfl, trivial⟩)
          · first | refine e_fl rfl rfl (fun hs_ => PF.mkg rfl rfl rfl (v_cmptA rfl rfl rfl) hs_) ?_ | refine e_fl rfl rfl (fun hs_ => PF.mkg rfl rfl rfl (v_cmpfA rfl rfl rfl) hs_) ?_ | refine e_fl rfl rfl (fun hs_ => PF.mkg rfl rfl rfl (v_cmp rfl rfl rfl) hs_) ?_ | refine e_fl rfl rfl (fun hs_ => PF.mks rfl (by intro c hc; cases hc) rfl rfl (by simp [undef]) hs_) ?_
            first | refine e_fl rfl rfl (fun hs_ => PF.mkg rfl rfl rfl (v_move rfl) hs_) ?_ | refine e_fl rfl rfl (fun hs_ => PF.mks rfl (by intro c hc; cases hc) rfl rfl (by simp [undef]) hs_) ?_
            first | refine e_fl rfl rfl (fun hs_ => PF.mkg rfl rfl rfl (v_move rfl) hs_) ?_ | refine e_fl rfl rfl (fun hs_ => PF.mks rfl (by intro c hc; cases hc) rfl rfl (by simp [undef]) hs_) ?_
            first | refine e_fl rfl rfl (fun hs_ => PF.mkg rfl rfl rfl (v_fieldB 1 Try.underlying55 rfl rfl fz3 rfl) hs_) ?_ | refine e_fl rfl rfl (fun hs_ => PF.mkg rfl rfl rfl (v_fieldI 1 Try.underlying55 rfl rfl fz3 rfl (by assumption)) hs_) ?_ | refine e_fl rfl rfl (fun hs_ => PF.mkg rfl rfl rfl (v_field Try.underlying55 rfl fz3 rfl rfl) hs_) ?_ | refine e_fl rfl rfl (fun hs_ => PF.mks rfl (by intro c hc; cases hc) rfl rfl (by simp [undef]) hs_) ?_
            first | refine e_fl rfl rfl (fun hs_ => PF.mkg rfl rfl rfl (v_loadA ty3 rfl rfl) hs_) ?_ | refine e_fl rfl rfl (fun hs_ => PF.mks rfl (by intro c hc; cases hc) rfl rfl (by simp [undef]) hs_) ?_
            first | refine e_fl rfl rfl (fun hs_ => PF.mkg rfl rfl rfl (v_move rfl) hs_) ?_ | refine e_fl rfl rfl (fun hs_ => PF.mks rfl (by intro c hc; cases hc) rfl rfl (by simp [undef]) hs_) ?_
            first | refine e_fl rfl rfl (fun hs_ => PF.mkg rfl rfl rfl (v_fieldB 1 Try.underlying55 rfl rfl fz3 rfl) hs_) ?_ | refine e_fl rfl rfl (fun hs_ => PF.mkg rfl rfl rfl (v_fieldI 1 Try.underlying55 rfl rfl fz3 rfl (by assumption)) hs_) ?_ | refine e_fl rfl rfl (fun hs_ => PF.mkg rfl rfl rfl (v_field Try.underlying55 rfl fz3 rfl rfl) hs_) ?_ | refine e_fl rfl rfl (fun hs_ => PF.mks rfl (by intro c hc; cases hc) rfl rfl (by simp [undef]) hs_) ?_
            first | refine e_fl rfl rfl (fun hs_ => PF.mkg rfl rfl rfl (v_loadA ty3 rfl rfl) hs_) ?_ | refine e_fl rfl rfl (fun hs_ => PF.mks rfl (by intro c hc; cases hc) rfl rfl (by simp [undef]) hs_) ?_
            refine e_eff rfl (by intro cs b hc; cases hc) (by intro c hc; cases hc) ?_
            first
              | (refine op_want rfl rfl ?_
                 refine op_call pl26 rfl rfl ((HDrop_does (id := id) hxl hok hhp)) (List.perm_append_comm (l₁ := [_, _, _, _])) ?_
                 rintro v55 I55 _ hI55 ⟨z55, xs55, mp55, rfl, hr55, hxl55, hok55, hhp55, rfl⟩
                 refine OpsJ.view (View.perm (List.perm_append_comm (l₂ := [_, _, _, _]))) ?_)
              | (refine op_skip rfl rfl (by simp [undef]) rfl ?_)
            refine ops_nil ?_
            refine e_next rfl side_allA ?_
            refine e_eff rfl (by intro cs b hc; cases hc) (by intro c hc; cases hc) ?_
            first
              | (refine op_want rfl rfl ?_
                 refine op_call pl27 rfl rfl ((RHDrop_does (id := id) (by omega))) (List.perm_append_comm (l₁ := [_, _])) ?_
                 rintro v59 I59 _ hI59 ⟨z59, A59, c59, ys59, rfl, hr59, rfl⟩
                 refine OpsJ.view (View.perm (List.perm_append_comm (l₁ := RHE b17 53 [] A59 c59 ys59 ++ HeapE hb mb A1 c1 xs55 mp55) (l₂ := [_, _]))) ?_
                 obtain ⟨rfl, hp59⟩ := hr55.both hr59 hp (nodup_ids hok))
              | (refine op_skip rfl rfl (by simp [undef]) rfl ?_)
            refine ops_nil ?_
            refine e_next rfl side_allA ?_
            first | refine e_fl rfl rfl (fun hs_ => PF.mkg rfl rfl rfl (v_eqb (z := false) Try.underlying4 rfl rfl (by simp [cmpB])) hs_) ?_ | refine e_fl rfl rfl (fun hs_ => PF.mks rfl (by intro c hc; cases hc) rfl rfl (by simp [undef]) hs_) ?_
            first | refine e_fl rfl rfl (fun hs_ => PF.mkg rfl rfl rfl (v_pickt rfl rfl) hs_) ?_ | refine e_fl rfl rfl (fun hs_ => PF.mkg rfl rfl rfl (v_pickf rfl rfl) hs_) ?_ | refine e_fl rfl rfl (fun hs_ => PF.mkg rfl rfl rfl (v_pickb rfl rfl rfl) hs_) ?_ | refine e_fl rfl rfl (fun hs_ => PF.mks rfl (by intro c hc; cases hc) rfl rfl (by simp [undef]) hs_) ?_
            first | refine e_fl rfl rfl (fun hs_ => PF.mk rfl (v_pickt rfl rfl) hs_) ?_ | refine e_fl rfl rfl (fun hs_ => PF.mk rfl (v_pickf rfl rfl) hs_) ?_ | refine e_fl rfl rfl (fun hs_ => PF.mk rfl (v_pickb rfl rfl rfl) hs_) ?_
            refine e_done ?_
            refine post_next ?_
            refine code_cond_f rfl ?_
            refine code_skip ?_
            refine PostJ.view (View.sub (List.Sublist.cons _ (List.Sublist.cons _ (List.Sublist.refl _)))) (post_meet _ ⟨A1, c1, xs, mp, A2, c2, ys, rfl, Imm.leA, rfl, hxl, hok, hhp, hp⟩ ⟨rfl, rfl, rfl, rfl, trivial⟩)
      · clear hxl hok hhp hyl hp
        rintro _ I2 _ ⟨A1, c1, xs, mp, A2, c2, ys, rfl, hI2, rfl, hxl, hok, hhp, hp⟩
        have hyl := hp.length_eq
        refine code_seq ?_
        refine code_region ?_
        refine op_v (v_move rfl) rfl ?_
        refine op_call pl28 rfl rfl ((HMin_does (by omega))) (List.perm_append_comm (l₁ := [_, _])) ?_
        rintro v65 I65 _ hI65 ⟨rfl, rfl⟩
        refine OpsJ.view (View.perm (List.perm_append_comm (l₂ := [_, _]))) ?_
        refine op_v (v_move rfl) rfl ?_
        refine op_v (v_extract rfl rfl) rfl ?_
        refine op_v (v_extract rfl rfl) rfl ?_
        refine o_alloc z57 rfl rfl (fun b8 => ?_)
        refine o_store ty57 rfl rfl rfl rfl rfl (by repeat (first | exact Swap.here | apply Swap.there)) rfl ?_
        refine op_v (v_assign rfl) rfl ?_
        refine ops_nil ?_
        refine post_next ?_
        refine code_seq ?_
        refine code_region ?_
        refine op_v (v_move rfl) rfl ?_
        refine op_call pl29 rfl rfl ((RHMin_does (by omega))) (List.perm_append_comm (l₁ := [_])) ?_
        rintro v70 I70 _ hI70 ⟨m70, rfl, hm70, rfl⟩
        refine OpsJ.view (View.perm (List.perm_append_comm (l₁ := RHE b17 53 [] A2 c2 ys ++ HeapE hb mb A1 c1 xs mp) (l₂ := [_]))) ?_
        obtain rfl := hm70.eq hp hhp
        rw [← hyl]
        refine op_v (v_move rfl) rfl ?_
        refine op_v (v_extract rfl rfl) rfl ?_
        refine op_v (v_extract rfl rfl) rfl ?_
        refine o_alloc z57 rfl rfl (fun b10 => ?_)
        refine o_store ty57 rfl rfl rfl rfl rfl (by repeat (first | exact Swap.here | apply Swap.there)) rfl ?_
        refine op_v (v_assign rfl) rfl ?_
        refine ops_nil ?_
        refine post_next ?_
        refine code_seq ?_
        refine code_draw (.fl 0 (.fl 1 (.fl 2 (.fl 3 (.fl 4 (.fl 5 (.fl 6 (.fl 7 (.fl 8 (.fl 9 (.fl 11 (.fl 12 (.fl 13 (.fl 14 (.fl 15 (.ef 10 (.fl 16 (.fl 17 .done)))))))))))))))))) (fun _ => [.box b10 57 [.int .i64 (gt xs 0).1, .int .i64 (gt xs 0).2], .box b8 57 [.int .i64 (gt xs 0).1, .int .i64 (gt xs 0).2], .box b17 53 [.slice A2 ys.length c2]]) mixed (by kernel_rfl) (by kernel_rfl) (fun _ => (List.Sublist.cons_cons _ (List.Sublist.cons_cons _ (List.Sublist.cons_cons _ (List.nil_sublist _))))) ?_
        refine e_fl rfl rfl (fun hs_ => PF.mk rfl (v_loadA ty57 rfl rfl) hs_) ?_
        refine e_fl rfl rfl (fun hs_ => PF.mk rfl (v_loadA ty57 rfl rfl) hs_) ?_
        refine e_fl rfl rfl (fun hs_ => PF.mk rfl (v_eqIt (z := false) itTy rfl rfl (by simp [cmpIt, itEq])) hs_) ?_
        refine e_fl rfl rfl (fun hs_ => PF.mk rfl (v_move rfl) hs_) ?_
        first | refine e_fl rfl rfl (fun hs_ => PF.mkg rfl rfl rfl (v_move rfl) hs_) ?_ | refine e_fl rfl rfl (fun hs_ => PF.mks rfl (by intro c hc; cases hc) rfl rfl (by simp [undef]) hs_) ?_
        first | refine e_fl rfl rfl (fun hs_ => PF.mkg rfl rfl rfl (v_move rfl) hs_) ?_ | refine e_fl rfl rfl (fun hs_ => PF.mks rfl (by intro c hc; cases hc) rfl rfl (by simp [undef]) hs_) ?_
        first | refine e_fl rfl rfl (fun hs_ => PF.mkg rfl rfl rfl (v_eqb (z := false) Try.underlying4 rfl rfl (by simp [cmpB])) hs_) ?_ | refine e_fl rfl rfl (fun hs_ => PF.mks rfl (by intro c hc; cases hc) rfl rfl (by simp [undef]) hs_) ?_
        first | refine e_fl rfl rfl (fun hs_ => PF.mk rfl (v_pickt rfl rfl) hs_) ?_ | refine e_fl rfl rfl (fun hs_ => PF.mk rfl (v_pickf rfl rfl) hs_) ?_ | refine e_fl rfl rfl (fun hs_ => PF.mk rfl (v_pickb rfl rfl rfl) hs_) ?_
        refine e_fl rfl rfl (fun hs_ => PF.mk rfl (v_move rfl) hs_) ?_
        first | refine e_fl rfl rfl (fun hs_ => PF.mkg rfl rfl rfl (v_move rfl) hs_) ?_ | refine e_fl rfl rfl (fun hs_ => PF.mks rfl (by intro c hc; cases hc) rfl rfl (by simp [undef]) hs_) ?_
        first | refine e_fl rfl rfl (fun hs_ => PF.mkg rfl rfl rfl (v_move rfl) hs_) ?_ | refine e_fl rfl rfl (fun hs_ => PF.mks rfl (by intro c hc; cases hc) rfl rfl (by simp [undef]) hs_) ?_
        first | refine e_fl rfl rfl (fun hs_ => PF.mkg rfl rfl rfl (v_nilCheck rfl) hs_) ?_ | refine e_fl rfl rfl (fun hs_ => PF.mks rfl (by intro c hc; cases hc) rfl rfl (by simp [undef]) hs_) ?_
        first | refine e_fl rfl rfl (fun hs_ => PF.mkg rfl rfl rfl (v_fieldB 0 Try.underlying53 rfl rfl fz51 rfl) hs_) ?_ | refine e_fl rfl rfl (fun hs_ => PF.mkg rfl rfl rfl (v_fieldI 0 Try.underlying53 rfl rfl fz51 rfl (by assumption)) hs_) ?_ | refine e_fl rfl rfl (fun hs_ => PF.mkg rfl rfl rfl (v_field Try.underlying53 rfl fz51 rfl rfl) hs_) ?_ | refine e_fl rfl rfl (fun hs_ => PF.mks rfl (by intro c hc; cases hc) rfl rfl (by simp [undef]) hs_) ?_
        first | refine e_fl rfl rfl (fun hs_ => PF.mkg rfl rfl rfl (v_loadA ty51 rfl rfl) hs_) ?_ | refine e_fl rfl rfl (fun hs_ => PF.mks rfl (by intro c hc; cases hc) rfl rfl (by simp [undef]) hs_) ?_
        first | refine e_fl rfl rfl (fun hs_ => PF.mkg rfl rfl rfl (v_len Try.underlying51 rfl) hs_) ?_ | refine e_fl rfl rfl (fun hs_ => PF.mks rfl (by intro c hc; cases hc) rfl rfl (by simp [undef]) hs_) ?_
        refine e_eff rfl (by intro cs b hc; cases hc) (by intro c hc; cases hc) ?_
        first
          | (refine op_want rfl rfl ?_
             refine op_call pl30 rfl rfl ((HSize_does)) (List.perm_append_comm (l₁ := [_, _, _, _])) ?_
             rintro v83 I83 _ hI83 ⟨rfl, rfl⟩
             refine OpsJ.view (View.perm (List.perm_append_comm (l₂ := [_, _, _, _]))) ?_)
          | (refine op_skip rfl rfl (by simp [undef]) rfl ?_)
        refine ops_nil ?_
        refine e_next rfl side_allA ?_
        first | refine e_fl rfl rfl (fun hs_ => PF.mkg rfl rfl rfl (v_cmptA rfl rfl rfl) hs_) ?_ | refine e_fl rfl rfl (fun hs_ => PF.mkg rfl rfl rfl (v_cmpfA rfl rfl rfl) hs_) ?_ | refine e_fl rfl rfl (fun hs_ => PF.mkg rfl rfl rfl (v_cmp rfl rfl rfl) hs_) ?_ | refine e_fl rfl rfl (fun hs_ => PF.mks rfl (by intro c hc; cases hc) rfl rfl (by simp [undef]) hs_) ?_
        first | refine e_fl rfl rfl (fun hs_ => PF.mk rfl (v_pickt rfl rfl) hs_) ?_ | refine e_fl rfl rfl (fun hs_ => PF.mk rfl (v_pickf rfl rfl) hs_) ?_ | refine e_fl rfl rfl (fun hs_ => PF.mk rfl (v_pickb rfl rfl rfl) hs_) ?_
        refine e_done ?_
        refine post_next ?_
        refine code_cond_f rfl ?_
        refine code_skip ?_
        refine post_out ?_
        refine post_next ?_
        refine code_region ?_
        refine op_v (v_move rfl) rfl ?_
        first | refine op_v (v_addb rfl rfl rfl (by omega)) rfl ?_ | refine op_v (v_add rfl rfl) rfl ?_
        refine op_v (v_assign rfl) rfl ?_
        refine ops_nil ?_
        refine PostJ.view (View.sub (List.Sublist.cons _ (List.Sublist.cons _ (List.Sublist.refl _)))) ?_
        refine post_again (rs.length - (k + 1)) [(0, .slice A rs.length c), (3, .pointer (some ⟨hb, 0, none⟩)), (4, .pointer (some ⟨b17, 0, none⟩)), (5, .int .i64 (k + 1 : Nat))] (by omega) ⟨k + 1, A1, c1, xs, mp, A2, c2, ys, rfl, hlt, rfl, Imm.leA, rfl, hxl, hok, hhp, hp⟩ ⟨rfl, rfl, rfl, rfl, trivial⟩
    · have hge : k = rs.length := by have h := hc2; simp at h; omega
      refine code_exit ?_
      refine post_exit_then ?_
      refine post_exit_then ?_
      refine post_exit ?_
      refine post_next ?_
      refine code_seq ?_
      refine code_region ?_
      refine op_call pl31 rfl rfl ((awake18_does _)) Parts.none ?_
      rintro v91 I91 _ hI91 ⟨rfl, rfl⟩
      refine op_v (v_assign rfl) rfl ?_
      refine ops_nil ?_
      refine post_next ?_
      refine code_ret ?_
      refine post_ret (rs := [.tmp 2]) rfl (List.Perm.refl _) (.cons (.tmp rfl) .nil) (List.nil_sublist _) ?_
      exact ⟨rfl, rfl⟩
end Go.Proofs.Ythbcdffldcdfoaa
