/- Walks: a queue answers a script as the document's does. -/
import Derived.Test.YthbcdffldcdfoaaHy
set_option linter.unusedVariables false
set_option linter.unusedSimpArgs false
set_option linter.unnecessarySimpa false
/- short -/
namespace Go.Proofs.Ythbcdffldcdfoaa
open Go Lg

theorem QE.facts {q : Qa} {a w told : Nat} {ys : List It} {δ : List Ent} (h : QE q a w told ys δ) : ys.length ≤ 4096 ∧ (ys.map (·.2)).Nodup := by
  obtain ⟨Aa, ca, xs, mp, Aw, cw, mq, hok, _⟩ := h
  exact ⟨by have := hok.len; have := hok.lx; omega, nodup_ids hok.oy⟩
theorem next_both {q : Qa} {rb a w told c : Nat} {A : Option Addr} {ys zs : List It} {v1 v2 : Value} {δ1 δ2 : List Ent} (hp : ys.Perm zs) (hn : (ys.map (·.2)).Nodup)
    (h : (ys = [] ∧ v1 = .tuple #[.int .i64 0, .bool false] ∧ QE q a w told [] δ1) ∨ ∃ y us, ys.Perm (y :: us) ∧ v1 = .tuple #[.int .i64 y.2, .bool true] ∧ NextQ a w told ys y ∧ QE q a w (told + 1) us δ1)
    (k : (zs = [] ∧ v2 = .tuple #[.int .i64 0, .bool false] ∧ δ2 = QR rb a w told A c []) ∨ ∃ y us A' c', zs.Perm (y :: us) ∧ v2 = .tuple #[.int .i64 y.2, .bool true] ∧ NextQ a w told zs y ∧ δ2 = QR rb a w (told + 1) A' c' us) :
    ∃ (id : Int) (ok : Bool) (told' : Nat) (ys' : List It) (A' : Option Addr) (c' : Nat) (zs' : List It), v1 = .tuple #[.int .i64 id, .bool ok] ∧ v2 = .tuple #[.int .i64 id, .bool ok] ∧ told' ≤ told + 1 ∧ δ2 = QR rb a w told' A' c' zs' ∧ QE q a w told' ys' δ1 ∧ ys'.Perm zs' := by
  have hl := hp.length_eq
  rcases h with ⟨rfl, rfl, h⟩ | ⟨y, us, h1, rfl, h2, h3⟩ <;> rcases k with ⟨rfl, rfl, rfl⟩ | ⟨z, us', A', c', k1, rfl, k2, rfl⟩
  · exact ⟨0, false, told, [], A, c, [], rfl, rfl, by omega, rfl, h, List.Perm.refl _⟩
  · have := k1.length_eq; rw [← hl] at this; simp at this
  · have := h1.length_eq; rw [hl] at this; simp at this
  · have e : y = z := h2.both k2 hp hn (h1.mem_iff.2 (List.mem_cons_self ..)) (k1.mem_iff.2 (List.mem_cons_self ..))
    subst e
    exact ⟨y.2, true, told + 1, us, A', c', us', rfl, rfl, by omega, rfl, h3, (h1.symm.trans (hp.trans k1)).cons_inv⟩
theorem HeapQueues_does {I : Imm} {v : Value} {age weight : Int} {rs : List (List Int)} (hia : InR age) (hiw : InR weight) (hv : RepN I v 3 rs) :
    Does Try.prog 6 [.int .i64 age, .int .i64 weight, v] I [] (fun v I' δ' => v = .bool true ∧ δ' = []) := by
  obtain ⟨A, c, rfl, hc, hb, hat⟩ := hv
  refine Does.intro Try.func6 rfl Try.ntmps6 rfl fun w0 => ?_
  refine code_seq ?_
  refine code_region ?_
  refine op_v (v_assign rfl) rfl ?_
  refine ops_nil ?_
  refine post_next ?_
  refine code_seq ?_
  refine code_seq ?_
  refine code_region ?_
  refine op_v (v_move rfl) rfl ?_
  refine op_v (v_len Try.underlying47 rfl) rfl ?_
  by_cases h19 : 200 < rs.length
  · first | refine op_v (v_cmptA rfl rfl rfl) rfl ?_ | refine op_v (v_cmpfA rfl rfl rfl) rfl ?_ | refine op_v (v_cmp rfl rfl rfl) rfl ?_
    refine ops_nil ?_
    refine post_next ?_
    refine code_cond_t rfl ?_
    refine code_seq ?_
    refine code_region ?_
    refine op_v (v_assign rfl) rfl ?_
    refine ops_nil ?_
    refine post_next ?_
    refine code_ret ?_
    refine post_ret_then ?_
    refine post_ret (rs := [.tmp 6]) rfl (List.Perm.refl _) (.cons (.tmp rfl) .nil) (List.nil_sublist _) ?_
    exact ⟨rfl, rfl⟩
  · first | refine op_v (v_cmptA rfl rfl rfl) rfl ?_ | refine op_v (v_cmpfA rfl rfl rfl) rfl ?_ | refine op_v (v_cmp rfl rfl rfl) rfl ?_
    refine ops_nil ?_
    refine post_next ?_
    refine code_cond_f rfl ?_
    refine code_skip ?_
    refine post_next ?_
    refine code_seq ?_
    refine code_region ?_
    refine op_v (v_move rfl) rfl ?_
    refine op_v (v_move rfl) rfl ?_
    refine op_call pl32 rfl rfl ((Ratio_does)) Parts.none ?_
    rintro v23 I23 δ23 hI23 HR23
    rw [List.append_nil]
    refine op_v (v_move rfl) rfl ?_
    rcases HR23 with ⟨hbad, rfl, rfl⟩ | ⟨hgood, q, rfl, hQ⟩
    · refine op_v (v_extract rfl rfl) rfl ?_
      refine op_v (v_extract rfl rfl) rfl ?_
      refine op_v (v_assign rfl) rfl ?_
      refine op_v (v_assign rfl) rfl ?_
      refine ops_nil ?_
      refine post_next ?_
      refine code_seq ?_
      refine code_region ?_
      refine op_v (v_move rfl) rfl ?_
      refine op_v (v_move rfl) rfl ?_
      refine op_call pl33 rfl rfl ((RRatio_does hia hiw)) Parts.none ?_
      rintro v29 I29 δ29 hI29 HR29
      obtain ⟨rfl, rfl⟩ : v29 = .tuple #[.pointer none, .int .i64 1] ∧ δ29 = [] := by
        rcases HR29 with ⟨_, h1, h2⟩ | ⟨h, _⟩
        · exact ⟨h1, h2⟩
        · exact absurd hbad h
      refine op_v (v_move rfl) rfl ?_
      refine op_v (v_extract rfl rfl) rfl ?_
      refine op_v (v_extract rfl rfl) rfl ?_
      refine op_v (v_assign rfl) rfl ?_
      refine op_v (v_assign rfl) rfl ?_
      refine ops_nil ?_
      refine post_next ?_
      refine code_seq ?_
      refine code_seq ?_
      refine code_region ?_
      refine op_v (v_move rfl) rfl ?_
      refine op_v (v_move rfl) rfl ?_
      first | refine op_v (v_cmptA rfl rfl rfl) rfl ?_ | refine op_v (v_cmpfA rfl rfl rfl) rfl ?_ | refine op_v (v_cmp rfl rfl rfl) rfl ?_
      refine op_v (v_move rfl) rfl ?_
      first
        | (refine op_want rfl rfl ?_
           refine op_v (v_move rfl) rfl ?_)
        | (refine op_skip rfl rfl (by simp [undef]) rfl ?_)
      first
        | (refine op_want rfl rfl ?_
           refine op_v (v_ptrq (z := true) Try.underlying62 rfl rfl rfl) rfl ?_)
        | (refine op_skip rfl rfl (by simp [undef]) rfl ?_)
      first
        | (refine op_want rfl rfl ?_
           refine op_v (v_move rfl) rfl ?_)
        | (refine op_skip rfl rfl (by simp [undef]) rfl ?_)
      first
        | (refine op_want rfl rfl ?_
           first | refine op_v (v_cmptA rfl rfl rfl) rfl ?_ | refine op_v (v_cmpfA rfl rfl rfl) rfl ?_ | refine op_v (v_cmp rfl rfl rfl) rfl ?_)
        | (refine op_skip rfl rfl (by simp [undef]) rfl ?_)
      first
        | (refine op_want rfl rfl ?_
           refine op_v (v_eqb (z := false) Try.underlying4 rfl rfl (by simp [cmpB])) rfl ?_)
        | (refine op_skip rfl rfl (by simp [undef]) rfl ?_)
      first | refine op_v (v_pickt rfl rfl) rfl ?_ | refine op_v (v_pickf rfl rfl) rfl ?_ | refine op_v (v_pickb rfl rfl rfl) rfl ?_
      refine ops_nil ?_
      refine post_next ?_
      refine code_cond_f rfl ?_
      refine code_skip ?_
      refine post_next ?_
      refine code_seq ?_
      refine code_seq ?_
      refine code_region ?_
      refine op_v (v_move rfl) rfl ?_
      refine op_v (v_ptrq (z := true) Try.underlying62 rfl rfl rfl) rfl ?_
      refine op_v (v_move rfl) rfl ?_
      first
        | (refine op_want rfl rfl ?_
           refine op_v (v_move rfl) rfl ?_)
        | (refine op_skip rfl rfl (by simp [undef]) rfl ?_)
      first
        | (refine op_want rfl rfl ?_
           refine op_v (v_ptrq (z := true) Try.underlying65 rfl rfl rfl) rfl ?_)
        | (refine op_skip rfl rfl (by simp [undef]) rfl ?_)
      first | refine op_v (v_pickt rfl rfl) rfl ?_ | refine op_v (v_pickf rfl rfl) rfl ?_ | refine op_v (v_pickb rfl rfl rfl) rfl ?_
      refine ops_nil ?_
      refine post_next ?_
      refine code_cond_t rfl ?_
      refine code_seq ?_
      refine code_region ?_
      refine op_call pl31 rfl rfl ((awake18_does _)) Parts.none ?_
      rintro v48 I48 _ hI48 ⟨rfl, rfl⟩
      refine op_v (v_assign rfl) rfl ?_
      refine ops_nil ?_
      refine post_next ?_
      refine code_ret ?_
      refine post_ret_then ?_
      refine post_ret (rs := [.tmp 6]) rfl (List.Perm.refl _) (.cons (.tmp rfl) .nil) (List.nil_sublist _) ?_
      exact ⟨rfl, rfl⟩
    · obtain ⟨an, rfl⟩ : ∃ n : Nat, age = n := ⟨age.toNat, by omega⟩
      obtain ⟨wn, rfl⟩ : ∃ n : Nat, weight = n := ⟨weight.toNat, by omega⟩
      rw [Int.toNat_natCast, Int.toNat_natCast] at hQ
      refine op_v (v_extract rfl rfl) rfl ?_
      refine op_v (v_extract rfl rfl) rfl ?_
      refine op_v (v_assign rfl) rfl ?_
      refine op_v (v_assign rfl) rfl ?_
      refine ops_nil ?_
      refine post_next ?_
      refine code_seq ?_
      refine code_region ?_
      refine op_v (v_move rfl) rfl ?_
      refine op_v (v_move rfl) rfl ?_
      refine op_call pl33 rfl rfl ((RRatio_does hia hiw)) Parts.none ?_
      rintro v29 I29 δ29 hI29 HR29
      obtain ⟨rb, rfl, rfl⟩ : ∃ rb, v29 = .tuple #[.pointer (some ⟨rb, 0, none⟩), .int .i64 0] ∧ δ29 = QR rb an wn 0 none 0 [] := by
        rcases HR29 with ⟨h, _⟩ | ⟨_, h⟩
        · exact absurd h hgood
        · exact h
      refine op_v (v_move rfl) rfl ?_
      refine op_v (v_extract rfl rfl) rfl ?_
      refine op_v (v_extract rfl rfl) rfl ?_
      refine op_v (v_assign rfl) rfl ?_
      refine op_v (v_assign rfl) rfl ?_
      refine ops_nil ?_
      refine post_next ?_
      refine code_seq ?_
      refine code_seq ?_
      refine code_region ?_
      refine op_v (v_move rfl) rfl ?_
      refine op_v (v_move rfl) rfl ?_
      first | refine op_v (v_cmptA rfl rfl rfl) rfl ?_ | refine op_v (v_cmpfA rfl rfl rfl) rfl ?_ | refine op_v (v_cmp rfl rfl rfl) rfl ?_
      refine op_v (v_move rfl) rfl ?_
      first
        | (refine op_want rfl rfl ?_
           refine op_v (v_move rfl) rfl ?_)
        | (refine op_skip rfl rfl (by simp [undef]) rfl ?_)
      first
        | (refine op_want rfl rfl ?_
           refine op_v (v_ptrq (z := false) Try.underlying62 rfl rfl rfl) rfl ?_)
        | (refine op_skip rfl rfl (by simp [undef]) rfl ?_)
      first
        | (refine op_want rfl rfl ?_
           refine op_v (v_move rfl) rfl ?_)
        | (refine op_skip rfl rfl (by simp [undef]) rfl ?_)
      first
        | (refine op_want rfl rfl ?_
           first | refine op_v (v_cmptA rfl rfl rfl) rfl ?_ | refine op_v (v_cmpfA rfl rfl rfl) rfl ?_ | refine op_v (v_cmp rfl rfl rfl) rfl ?_)
        | (refine op_skip rfl rfl (by simp [undef]) rfl ?_)
      first
        | (refine op_want rfl rfl ?_
           refine op_v (v_eqb (z := false) Try.underlying4 rfl rfl (by simp [cmpB])) rfl ?_)
        | (refine op_skip rfl rfl (by simp [undef]) rfl ?_)
      first | refine op_v (v_pickt rfl rfl) rfl ?_ | refine op_v (v_pickf rfl rfl) rfl ?_ | refine op_v (v_pickb rfl rfl rfl) rfl ?_
      refine ops_nil ?_
      refine post_next ?_
      refine code_cond_f rfl ?_
      refine code_skip ?_
      refine post_next ?_
      refine code_seq ?_
      refine code_seq ?_
      refine code_region ?_
      refine op_v (v_move rfl) rfl ?_
      refine op_v (v_ptrq (z := false) Try.underlying62 rfl rfl rfl) rfl ?_
      refine op_v (v_move rfl) rfl ?_
      first
        | (refine op_want rfl rfl ?_
           refine op_v (v_move rfl) rfl ?_)
        | (refine op_skip rfl rfl (by simp [undef]) rfl ?_)
      first
        | (refine op_want rfl rfl ?_
           refine op_v (v_ptrq (z := false) Try.underlying65 rfl rfl rfl) rfl ?_)
        | (refine op_skip rfl rfl (by simp [undef]) rfl ?_)
      first | refine op_v (v_pickt rfl rfl) rfl ?_ | refine op_v (v_pickf rfl rfl) rfl ?_ | refine op_v (v_pickb rfl rfl rfl) rfl ?_
      refine ops_nil ?_
      refine post_next ?_
      refine code_cond_f rfl ?_
      refine code_skip ?_
      refine post_next ?_
      refine code_seq ?_
      refine code_seq ?_
      refine code_region ?_
      refine op_v (v_assign rfl) rfl ?_
      refine ops_nil ?_
      refine post_next ?_
      refine code_block ?_
      refine code_loop (fun m σ' I' δ' => ∃ (k told : Nat) (ys : List It) (δq : List Ent) (A2 : Option Addr) (c2 : Nat) (zs : List It), m = rs.length - k ∧ k ≤ rs.length ∧ told ≤ k ∧ σ' = [(0, .int .i64 an), (1, .int .i64 wn), (2, .slice A rs.length c), (7, .pointer (some ⟨q.qb, 0, none⟩)), (9, .pointer (some ⟨rb, 0, none⟩)), (11, .int .i64 k)] ∧ I29.le I' ∧ δ' = QR rb an wn told A2 c2 zs ++ δq ∧ QE q an wn told ys δq ∧ ys.Perm zs) rs.length [(0, .int .i64 an), (1, .int .i64 wn), (2, .slice A rs.length c), (7, .pointer (some ⟨q.qb, 0, none⟩)), (9, .pointer (some ⟨rb, 0, none⟩)), (11, .int .i64 (0 : Nat))] ⟨0, 0, [], δ23, none, 0, [], rfl, by omega, by omega, rfl, Imm.le_refl _, rfl, hQ, List.Perm.refl _⟩ ⟨rfl, rfl, rfl, rfl, rfl, rfl, trivial⟩ ?_
      rintro m _ I1 _ ⟨k, told, ys, δq, A2, c2, zs, rfl, hk, htk, rfl, hI1, rfl, hq, hp⟩
      obtain ⟨hys, hyn⟩ := hq.facts
      have hyl := hp.length_eq
      have hzn := (hp.map (fun x : It => x.2)).nodup_iff.1 hyn
      refine code_seq ?_
      refine code_seq ?_
      refine code_region ?_
      refine op_v (v_move rfl) rfl ?_
      refine op_v (v_move rfl) rfl ?_
      refine op_v (v_len Try.underlying47 rfl) rfl ?_
      first | refine op_v (v_cmptA rfl rfl rfl) rfl ?_ | refine op_v (v_cmpfA rfl rfl rfl) rfl ?_ | refine op_v (v_cmp rfl rfl rfl) rfl ?_
      refine ops_nil ?_
      refine post_next ?_
      refine code_cond rfl (fun hc3 => ?_) (fun hc3 => ?_)
      · have hlt : k < rs.length := by have h := hc3; simp at h; omega
        obtain ⟨w, id, ke, hst⟩ := three (hat k hlt).1 (hat k hlt).2
        have hs1 := hst.isSome
        refine code_skip ?_
        refine post_next ?_
        refine code_seq ?_
        refine code_block ?_
        refine code_seq ?_
        refine code_region ?_
        refine op_v (v_move rfl) rfl ?_
        refine op_v (v_move rfl) rfl ?_
        first | refine op_v (v_indexA Try.underlying47 sz55 rfl rfl) rfl ?_ | refine op_v (v_indexIA Try.underlying47 sz55 rfl rfl) rfl ?_
        first | refine op_v (v_loadI0 ty55 (hst.mono Imm.leA) rfl rfl rfl) rfl ?_ | refine op_v (v_loadI ty55 (hst.mono Imm.leA) rfl rfl rfl) rfl ?_
        refine o_alloc z55 rfl rfl (fun b12 => ?_)
        refine o_store ty55 rfl rfl rfl rfl rfl (by repeat (first | exact Swap.here | apply Swap.there)) rfl ?_
        refine ops_nil ?_
        refine post_next ?_
        refine code_seq_meet (fun σ' I' δ' => ∃ (told : Nat) (ys : List It) (δq : List Ent) (A2 : Option Addr) (c2 : Nat) (zs : List It), told ≤ k + 1 ∧ σ' = [(0, .int .i64 an), (1, .int .i64 wn), (2, .slice A rs.length c), (7, .pointer (some ⟨q.qb, 0, none⟩)), (9, .pointer (some ⟨rb, 0, none⟩)), (11, .int .i64 k)] ∧ I1.le I' ∧ δ' = QR rb an wn told A2 c2 zs ++ δq ∧ QE q an wn told ys δq ∧ ys.Perm zs) ?_ ?_
        · refine code_seq ?_
          refine code_region ?_
          first | refine op_v (v_fieldB 0 Try.underlying55 rfl rfl fz3 rfl) rfl ?_ | refine op_v (v_fieldI 0 Try.underlying55 rfl rfl fz3 rfl (by assumption)) rfl ?_ | refine op_v (v_field Try.underlying55 rfl fz3 rfl rfl) rfl ?_
          refine op_v (v_loadA ty3 rfl rfl) rfl ?_
          refine ops_nil ?_
          refine post_next ?_
          refine code_block ?_
          refine code_seq ?_
          refine code_region ?_
          by_cases h73 : w = 0
          · first | refine op_v (v_cmptA rfl rfl rfl) rfl ?_ | refine op_v (v_cmpfA rfl rfl rfl) rfl ?_ | refine op_v (v_cmp rfl rfl rfl) rfl ?_
            refine op_v (v_assign rfl) rfl ?_
            refine ops_nil ?_
            refine post_next ?_
            refine code_cond_t rfl ?_
            refine code_seq ?_
            refine code_draw (.fl 0 (.fl 1 (.fl 2 (.fl 3 (.fl 4 (.fl 6 (.fl 7 (.fl 8 (.fl 9 (.fl 10 (.fl 11 (.fl 12 (.fl 13 (.ef 5 (.ef 14 (.fl 15 .done)))))))))))))))) (fun _ => [.box b12 55 [.int .i64 w, .int .i64 id, .int .i64 ke]]) mixed (by kernel_rfl) (by kernel_rfl) (fun _ => (List.Sublist.cons_cons _ (List.nil_sublist _))) ?_
            refine e_fl rfl rfl (fun hs_ => PF.mk rfl (v_move rfl) hs_) ?_
            first | refine e_fl rfl rfl (fun hs_ => PF.mk rfl (v_fieldB 1 Try.underlying55 rfl rfl fz3 rfl) hs_) ?_ | refine e_fl rfl rfl (fun hs_ => PF.mk rfl (v_fieldI 1 Try.underlying55 rfl rfl fz3 rfl (by assumption)) hs_) ?_ | refine e_fl rfl rfl (fun hs_ => PF.mk rfl (v_field Try.underlying55 rfl fz3 rfl rfl) hs_) ?_
            refine e_fl rfl rfl (fun hs_ => PF.mk rfl (v_loadA ty3 rfl rfl) hs_) ?_
            first | refine e_fl rfl rfl (fun hs_ => PF.mk rfl (v_fieldB 2 Try.underlying55 rfl rfl fz3 rfl) hs_) ?_ | refine e_fl rfl rfl (fun hs_ => PF.mk rfl (v_fieldI 2 Try.underlying55 rfl rfl fz3 rfl (by assumption)) hs_) ?_ | refine e_fl rfl rfl (fun hs_ => PF.mk rfl (v_field Try.underlying55 rfl fz3 rfl rfl) hs_) ?_
            refine e_fl rfl rfl (fun hs_ => PF.mk rfl (v_loadA ty3 rfl rfl) hs_) ?_
            refine e_fl rfl rfl (fun hs_ => PF.mk rfl (v_move rfl) hs_) ?_
            refine e_fl rfl rfl (fun hs_ => PF.mk rfl (v_nilCheck rfl) hs_) ?_
            first | refine e_fl rfl rfl (fun hs_ => PF.mk rfl (v_fieldB 0 Try.underlying70 rfl rfl fz53 rfl) hs_) ?_ | refine e_fl rfl rfl (fun hs_ => PF.mk rfl (v_fieldI 0 Try.underlying70 rfl rfl fz53 rfl (by assumption)) hs_) ?_ | refine e_fl rfl rfl (fun hs_ => PF.mk rfl (v_field Try.underlying70 rfl fz53 rfl rfl) hs_) ?_
            first | refine e_fl rfl rfl (fun hs_ => PF.mk rfl (v_fieldB 2 Try.underlying55 rfl rfl fz3 rfl) hs_) ?_ | refine e_fl rfl rfl (fun hs_ => PF.mk rfl (v_fieldI 2 Try.underlying55 rfl rfl fz3 rfl (by assumption)) hs_) ?_ | refine e_fl rfl rfl (fun hs_ => PF.mk rfl (v_field Try.underlying55 rfl fz3 rfl rfl) hs_) ?_
            refine e_fl rfl rfl (fun hs_ => PF.mk rfl (v_loadA ty3 rfl rfl) hs_) ?_
            first | refine e_fl rfl rfl (fun hs_ => PF.mk rfl (v_fieldB 1 Try.underlying55 rfl rfl fz3 rfl) hs_) ?_ | refine e_fl rfl rfl (fun hs_ => PF.mk rfl (v_fieldI 1 Try.underlying55 rfl rfl fz3 rfl (by assumption)) hs_) ?_ | refine e_fl rfl rfl (fun hs_ => PF.mk rfl (v_field Try.underlying55 rfl fz3 rfl rfl) hs_) ?_
            refine e_fl rfl rfl (fun hs_ => PF.mk rfl (v_loadA ty3 rfl rfl) hs_) ?_
            refine e_fl rfl rfl (fun hs_ => PF.mk rfl (v_build bl57 rfl rfl) hs_) ?_
            refine e_eff rfl (by intro cs b hc; cases hc) (by intro c hc; cases hc) ?_
            refine op_call pl34 rfl rfl ((QPut_does hq)) (List.perm_append_comm (l₁ := [_, _, _])) ?_
            rintro v79 I79 δ79 hI79 ⟨e79, ys79, rfl, hr79, hq79⟩
            refine OpsJ.view (View.perm (List.perm_append_comm (l₂ := [_, _, _]))) ?_
            refine ops_nil ?_
            refine e_next rfl side_allA ?_
            refine e_eff rfl (by intro cs b hc; cases hc) (by intro c hc; cases hc) ?_
            refine op_call pl25 rfl rfl ((RHPut_does (x := (ke, id)) (by omega))) (List.perm_append_comm (l₁ := [_])) ?_
            rintro v88 I88 _ hI88 ⟨e88, A88, c88, zs88, rfl, hr88, rfl⟩
            refine OpsJ.view (View.perm (List.perm_append_comm (l₁ := QR rb an wn told A88 c88 zs88 ++ δ79) (l₂ := [_]))) ?_
            obtain ⟨rfl, hp88⟩ := hr79.both hr88 hp
            refine ops_nil ?_
            refine e_next rfl side_allA ?_
            first | refine e_fl rfl rfl (fun hs_ => PF.mk rfl (v_cmptA rfl rfl rfl) hs_) ?_ | refine e_fl rfl rfl (fun hs_ => PF.mk rfl (v_cmpfA rfl rfl rfl) hs_) ?_ | refine e_fl rfl rfl (fun hs_ => PF.mk rfl (v_cmp rfl rfl rfl) hs_) ?_
            refine e_done ?_
            refine post_next ?_
            refine code_cond_f rfl ?_
            refine code_skip ?_
            refine post_out ?_
            refine PostJ.view (View.sub (List.Sublist.cons _ (List.Sublist.refl _))) (post_meet _ ⟨told, ys79, δ79, A88, c88, zs88, by omega, rfl, Imm.leA, rfl, hq79, hp88⟩ ⟨rfl, rfl, rfl, rfl, rfl, rfl, trivial⟩)
          · first | refine op_v (v_cmptA rfl rfl rfl) rfl ?_ | refine op_v (v_cmpfA rfl rfl rfl) rfl ?_ | refine op_v (v_cmp rfl rfl rfl) rfl ?_
            refine op_v (v_assign rfl) rfl ?_
            refine ops_nil ?_
            refine post_next ?_
            refine code_cond_f rfl ?_
            refine code_seq ?_
            refine code_region ?_
            by_cases h91 : w = 1
            · first | refine op_v (v_cmptA rfl rfl rfl) rfl ?_ | refine op_v (v_cmpfA rfl rfl rfl) rfl ?_ | refine op_v (v_cmp rfl rfl rfl) rfl ?_
              refine op_v (v_assign rfl) rfl ?_
              refine ops_nil ?_
              refine post_next ?_
              refine code_cond_t rfl ?_
              refine code_seq ?_
              refine code_region ?_
              refine op_v (v_move rfl) rfl ?_
              refine op_call pl35 rfl rfl ((QNext_does hq (by omega) (by omega) (by omega) (by omega))) (List.perm_append_comm (l₁ := [_, _, _])) ?_
              rintro v94 I94 δ94 hI94 HR94
              refine OpsJ.view (View.perm (List.perm_append_comm (l₂ := [_, _, _]))) ?_
              obtain ⟨id1, ok1, rfl⟩ : ∃ id ok, v94 = .tuple #[.int .i64 id, .bool ok] := by
                rcases HR94 with ⟨_, h, _⟩ | ⟨y, us, _, h, _⟩
                · exact ⟨_, _, h⟩
                · exact ⟨_, _, h⟩
              refine op_v (v_move rfl) rfl ?_
              refine op_v (v_extract rfl rfl) rfl ?_
              refine op_v (v_extract rfl rfl) rfl ?_
              refine op_v (v_assign rfl) rfl ?_
              refine op_v (v_assign rfl) rfl ?_
              refine ops_nil ?_
              refine post_next ?_
              refine code_seq ?_
              refine code_region ?_
              refine op_v (v_move rfl) rfl ?_
              refine op_call pl36 rfl rfl ((RNext_does (by omega) hzn (by omega) (by omega) (by omega) (by omega))) (List.perm_append_comm (l₁ := [_])) ?_
              rintro v99 I99 δ99 hI99 HR99
              obtain ⟨id', ok', told', ys', A', c', zs', hv94, rfl, htl, rfl, hq', hp'⟩ := next_both hp hyn HR94 HR99
              cases hv94
              refine OpsJ.view (View.perm (List.perm_append_comm (l₁ := QR rb an wn told' A' c' zs' ++ δ94) (l₂ := [_]))) ?_
              refine op_v (v_move rfl) rfl ?_
              refine op_v (v_extract rfl rfl) rfl ?_
              refine op_v (v_extract rfl rfl) rfl ?_
              refine op_v (v_assign rfl) rfl ?_
              refine op_v (v_assign rfl) rfl ?_
              refine ops_nil ?_
              refine post_next ?_
              refine code_seq ?_
              refine code_region ?_
              refine op_v (v_move rfl) rfl ?_
              refine op_v (v_move rfl) rfl ?_
              refine op_v (v_cmpf rfl rfl rfl (by simp)) rfl ?_
              refine op_v (v_move rfl) rfl ?_
              first
                | (refine op_want rfl rfl ?_
                   refine op_v (v_move rfl) rfl ?_)
                | (refine op_skip rfl rfl (by simp [undef]) rfl ?_)
              first
                | (refine op_want rfl rfl ?_
                   refine op_v (v_move rfl) rfl ?_)
                | (refine op_skip rfl rfl (by simp [undef]) rfl ?_)
              first
                | (refine op_want rfl rfl ?_
                   refine op_v (v_eqb (z := false) Try.underlying4 rfl rfl (by simp [cmpB])) rfl ?_)
                | (refine op_skip rfl rfl (by simp [undef]) rfl ?_)
              first | refine op_v (v_pickt rfl rfl) rfl ?_ | refine op_v (v_pickf rfl rfl) rfl ?_ | refine op_v (v_pickb rfl rfl rfl) rfl ?_
              refine ops_nil ?_
              refine post_next ?_
              refine code_cond_f rfl ?_
              refine code_skip ?_
              refine post_out ?_
              refine PostJ.view (View.sub (List.Sublist.cons _ (List.Sublist.refl _))) (post_meet _ ⟨told', ys', δ94, A', c', zs', by omega, rfl, Imm.leA, rfl, hq', hp'⟩ ⟨rfl, rfl, rfl, rfl, rfl, rfl, trivial⟩)
            · first | refine op_v (v_cmptA rfl rfl rfl) rfl ?_ | refine op_v (v_cmpfA rfl rfl rfl) rfl ?_ | refine op_v (v_cmp rfl rfl rfl) rfl ?_
              refine op_v (v_assign rfl) rfl ?_
              refine ops_nil ?_
              refine post_next ?_
              refine code_cond_f rfl ?_
              refine code_seq ?_
              refine code_draw (.fl 0 (.fl 1 (.fl 2 (.fl 4 (.fl 5 (.fl 6 (.fl 7 (.fl 8 (.ef 3 (.ef 9 (.fl 10 .done))))))))))) (fun _ => [.box b12 55 [.int .i64 w, .int .i64 id, .int .i64 ke]]) mixed (by kernel_rfl) (by kernel_rfl) (fun _ => (List.Sublist.cons_cons _ (List.nil_sublist _))) ?_
              refine e_fl rfl rfl (fun hs_ => PF.mk rfl (v_move rfl) hs_) ?_
              first | refine e_fl rfl rfl (fun hs_ => PF.mk rfl (v_fieldB 1 Try.underlying55 rfl rfl fz3 rfl) hs_) ?_ | refine e_fl rfl rfl (fun hs_ => PF.mk rfl (v_fieldI 1 Try.underlying55 rfl rfl fz3 rfl (by assumption)) hs_) ?_ | refine e_fl rfl rfl (fun hs_ => PF.mk rfl (v_field Try.underlying55 rfl fz3 rfl rfl) hs_) ?_
              refine e_fl rfl rfl (fun hs_ => PF.mk rfl (v_loadA ty3 rfl rfl) hs_) ?_
              refine e_fl rfl rfl (fun hs_ => PF.mk rfl (v_move rfl) hs_) ?_
              refine e_fl rfl rfl (fun hs_ => PF.mk rfl (v_nilCheck rfl) hs_) ?_
              first | refine e_fl rfl rfl (fun hs_ => PF.mk rfl (v_fieldB 0 Try.underlying70 rfl rfl fz53 rfl) hs_) ?_ | refine e_fl rfl rfl (fun hs_ => PF.mk rfl (v_fieldI 0 Try.underlying70 rfl rfl fz53 rfl (by assumption)) hs_) ?_ | refine e_fl rfl rfl (fun hs_ => PF.mk rfl (v_field Try.underlying70 rfl fz53 rfl rfl) hs_) ?_
              first | refine e_fl rfl rfl (fun hs_ => PF.mk rfl (v_fieldB 1 Try.underlying55 rfl rfl fz3 rfl) hs_) ?_ | refine e_fl rfl rfl (fun hs_ => PF.mk rfl (v_fieldI 1 Try.underlying55 rfl rfl fz3 rfl (by assumption)) hs_) ?_ | refine e_fl rfl rfl (fun hs_ => PF.mk rfl (v_field Try.underlying55 rfl fz3 rfl rfl) hs_) ?_
              refine e_fl rfl rfl (fun hs_ => PF.mk rfl (v_loadA ty3 rfl rfl) hs_) ?_
              refine e_eff rfl (by intro cs b hc; cases hc) (by intro c hc; cases hc) ?_
              refine op_call pl37 rfl rfl ((QDrop_does hq)) (List.perm_append_comm (l₁ := [_, _, _])) ?_
              rintro v64 I64 δ64 hI64 ⟨e64, ys64, rfl, hr64, hq64⟩
              refine OpsJ.view (View.perm (List.perm_append_comm (l₂ := [_, _, _]))) ?_
              refine ops_nil ?_
              refine e_next rfl side_allA ?_
              refine e_eff rfl (by intro cs b hc; cases hc) (by intro c hc; cases hc) ?_
              refine op_call pl27 rfl rfl ((RHDrop_does (by omega))) (List.perm_append_comm (l₁ := [_])) ?_
              rintro v70 I70 _ hI70 ⟨e70, A70, c70, zs70, rfl, hr70, rfl⟩
              refine OpsJ.view (View.perm (List.perm_append_comm (l₁ := QR rb an wn told A70 c70 zs70 ++ δ64) (l₂ := [_]))) ?_
              obtain ⟨rfl, hp70⟩ := hr64.both hr70 hp hyn
              refine ops_nil ?_
              refine e_next rfl side_allA ?_
              refine e_fl rfl rfl (fun hs_ => PF.mk rfl (v_eqb (z := false) Try.underlying4 rfl rfl (by simp [cmpB])) hs_) ?_
              refine e_done ?_
              refine post_next ?_
              refine code_cond_f rfl ?_
              refine code_skip ?_
              refine post_out ?_
              refine PostJ.view (View.sub (List.Sublist.cons _ (List.Sublist.refl _))) (post_meet _ ⟨told, ys64, δ64, A70, c70, zs70, by omega, rfl, Imm.leA, rfl, hq64, hp70⟩ ⟨rfl, rfl, rfl, rfl, rfl, rfl, trivial⟩)
        · clear hys hyn hyl hzn hp hq
          rintro _ I2 _ ⟨told, ys, δq, A2, c2, zs, htl, rfl, hI2, rfl, hq, hp⟩
          have hyl := hp.length_eq
          refine code_seq ?_
          refine code_draw (.fl 0 (.fl 2 (.fl 3 (.fl 4 (.fl 5 (.fl 6 (.fl 7 (.ef 1 (.fl 8 .done))))))))) (fun _ => [.box rb 70 [.slice A2 zs.length c2, .int .i64 an, .int .i64 wn, .int .i64 told]]) mixed (by kernel_rfl) (by kernel_rfl) (fun _ => (List.Sublist.cons_cons _ (List.nil_sublist _))) ?_
          refine e_fl rfl rfl (fun hs_ => PF.mk rfl (v_move rfl) hs_) ?_
          refine e_fl rfl rfl (fun hs_ => PF.mk rfl (v_move rfl) hs_) ?_
          refine e_fl rfl rfl (fun hs_ => PF.mk rfl (v_nilCheck rfl) hs_) ?_
          first | refine e_fl rfl rfl (fun hs_ => PF.mk rfl (v_fieldB 0 Try.underlying70 rfl rfl fz53 rfl) hs_) ?_ | refine e_fl rfl rfl (fun hs_ => PF.mk rfl (v_fieldI 0 Try.underlying70 rfl rfl fz53 rfl (by assumption)) hs_) ?_ | refine e_fl rfl rfl (fun hs_ => PF.mk rfl (v_field Try.underlying70 rfl fz53 rfl rfl) hs_) ?_
          first | refine e_fl rfl rfl (fun hs_ => PF.mk rfl (v_fieldB 0 Try.underlying53 rfl rfl fz51 rfl) hs_) ?_ | refine e_fl rfl rfl (fun hs_ => PF.mk rfl (v_fieldI 0 Try.underlying53 rfl rfl fz51 rfl (by assumption)) hs_) ?_ | refine e_fl rfl rfl (fun hs_ => PF.mk rfl (v_field Try.underlying53 rfl fz51 rfl rfl) hs_) ?_
          refine e_fl rfl rfl (fun hs_ => PF.mk rfl (v_loadA ty51 rfl rfl) hs_) ?_
          refine e_fl rfl rfl (fun hs_ => PF.mk rfl (v_len Try.underlying51 rfl) hs_) ?_
          refine e_eff rfl (by intro cs b hc; cases hc) (by intro c hc; cases hc) ?_
          refine op_call pl38 rfl rfl ((QSize_does hq)) (List.perm_append_comm (l₁ := [_, _])) ?_
          rintro v111 I111 δ111 hI111 ⟨rfl, hq111⟩
          refine OpsJ.view (View.perm (List.perm_append_comm (l₂ := [_, _]))) ?_
          refine ops_nil ?_
          refine e_next rfl side_allA ?_
          first | refine e_fl rfl rfl (fun hs_ => PF.mk rfl (v_cmptA rfl rfl rfl) hs_) ?_ | refine e_fl rfl rfl (fun hs_ => PF.mk rfl (v_cmpfA rfl rfl rfl) hs_) ?_ | refine e_fl rfl rfl (fun hs_ => PF.mk rfl (v_cmp rfl rfl rfl) hs_) ?_
          refine e_done ?_
          refine post_next ?_
          refine code_cond_f rfl ?_
          refine code_skip ?_
          refine post_out ?_
          refine post_next ?_
          refine code_region ?_
          refine op_v (v_move rfl) rfl ?_
          first | refine op_v (v_addb rfl rfl rfl (by omega)) rfl ?_ | refine op_v (v_add rfl rfl) rfl ?_
          refine op_v (v_assign rfl) rfl ?_
          refine ops_nil ?_
          refine post_again (rs.length - (k + 1)) [(0, .int .i64 an), (1, .int .i64 wn), (2, .slice A rs.length c), (7, .pointer (some ⟨q.qb, 0, none⟩)), (9, .pointer (some ⟨rb, 0, none⟩)), (11, .int .i64 (k + 1 : Nat))] (by omega) ⟨k + 1, told, ys, δ111, A2, c2, zs, rfl, hlt, htl, rfl, Imm.leA, rfl, hq111, hp⟩ ⟨rfl, rfl, rfl, rfl, rfl, rfl, trivial⟩
      · have hge : k = rs.length := by have h := hc3; simp at h; omega
        refine code_exit ?_
        refine post_exit_then ?_
        refine post_exit_then ?_
        refine post_exit ?_
        refine post_next ?_
        refine code_seq ?_
        refine code_region ?_
        refine op_call pl31 rfl rfl ((awake18_does _)) Parts.none ?_
        rintro v119 I119 _ hI119 ⟨rfl, rfl⟩
        refine op_v (v_assign rfl) rfl ?_
        refine ops_nil ?_
        refine post_next ?_
        refine code_ret ?_
        refine post_ret (rs := [.tmp 6]) rfl (List.Perm.refl _) (.cons (.tmp rfl) .nil) (List.nil_sublist _) ?_
        exact ⟨rfl, rfl⟩
end Go.Proofs.Ythbcdffldcdfoaa
