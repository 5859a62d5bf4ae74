/- Walks: items compared, and exchanged. -/
import Derived.Test.YthbcdffldcdfoaaHa
set_option linter.unusedVariables false
set_option linter.unusedSimpArgs false
set_option linter.unnecessarySimpa false
/- short -/
namespace Go.Proofs.Ythbcdffldcdfoaa
open Go Lg

theorem Lg.CodeJ.rowSome {C : Ctx} {Q : Exit → Act → World → Prop} {σ : Env} {ds : List Nat} {I : Imm} {δ : List Ent} {cd : Code} {A : Option Addr} {c n size : Nat} {e : TypeId} {xs : List Value} (hd : Has δ (.row (.slice A n c) e size n xs)) (hn : 0 < n)
    (h : A.isSome = true → n ≤ c → CodeJ C cd Q σ ds I δ) : CodeJ C cd Q σ ds I δ := by
  intro a w he hs ht
  have hr : w.ownsRow 0 e size (.slice A n c) n xs := hs.ents _ hd.mem
  rcases hr.2 with ⟨h1, h2⟩ | ⟨g, cap, cur, h1, _, _, h3, _⟩
  · omega
  · cases h1
    exact h rfl h3 a w he hs ht
abbrev HeapE (hb mb : Nat) (A : Option Addr) (c : Nat) (xs : List It) (mp : Mp) : List Ent := [.box hb 97 [.slice A xs.length c, .map (some mb)], .row (.slice A xs.length c) 57 2 xs.length (itL xs), .map mb mp]
theorem ld_it {xs : List It} {i : Nat} (h : i < xs.length) : ld true 2 ((itL xs).drop (i * 2)) = some (.agg #[.int .i64 (gt xs i).1, .int .i64 (gt xs i).2]) := by rw [itL_drop xs i h, gt_at h]; rfl
theorem ld_id {xs : List It} {i : Nat} (h : i < xs.length) : ld false 1 ((itL xs).drop (i * 2 + 1)) = some (.int .i64 (gt xs i).2) := ld_at (by rw [(itL_at xs i h).2, gt_at h])
theorem stL_it {xs : List It} {i : Nat} (h : i < xs.length) (y : It) : stL (itL xs) (i * 2) [.int .i64 y.1, .int .i64 y.2] = some (itL (xs.set i y)) := by
  obtain ⟨h1, h2⟩ := itL_at xs i h
  rw [itL_set xs i y h]; exact stL_two h1 h2
theorem or_ltB (a b : It) : decide (orI [ordI a.1 b.1, ordI a.2 b.2] < 0) = ltB a b := by
  have h : orI [ordI a.1 b.1, ordI a.2 b.2] < 0 ↔ (a.1 < b.1 ∨ (a.1 = b.1 ∧ a.2 < b.2)) := by
    simp only [orI, ordI]
    by_cases h1 : a.1 < b.1
    · simp [h1]
    · by_cases h2 : b.1 < a.1
      · simp [h1, h2]; omega
      · have e : a.1 = b.1 := by omega
        by_cases h3 : a.2 < b.2
        · simp [e, h3]
        · by_cases h4 : b.2 < a.2
          · simp [e, h3, h4]
          · simp [e, h3, h4]
  rw [Bool.eq_iff_iff, ltB_iff, decide_eq_true_eq, h]
theorem ordI_inR (a b : Int) : InR (ordI a b) := by have := ordI_range a b; unfold InR; omega
theorem less_does {I : Imm} {hb mb c : Nat} {A : Option Addr} {xs : List It} {mp : Mp} {i k : Nat} (hi : i < xs.length) (hk : k < xs.length) (hl : xs.length ≤ 1000000000) :
    Does Try.prog 63 [.pointer (some ⟨hb, 0, none⟩), .int .i64 i, .int .i64 k] I (HeapE hb mb A c xs mp) (fun v _ δ' => v = .bool (ltB (gt xs i) (gt xs k)) ∧ δ' = HeapE hb mb A c xs mp) := by
  refine Does.intro Try.func63 rfl Try.ntmps63 rfl fun w0 => ?_
  refine code_seq ?_
  refine code_region ?_
  refine op_v (v_assign rfl) rfl ?_
  refine ops_nil ?_
  refine post_next ?_
  refine code_seq_meet (fun σ' I' δ' => ∃ b7' b8' : Nat, σ' = [(7, .pointer (some ⟨b7', 0, none⟩)), (8, .pointer (some ⟨b8', 0, none⟩))] ∧ I = I' ∧ δ' = .box b8' 57 [.int .i64 (gt xs k).1, .int .i64 (gt xs k).2] :: .box b7' 57 [.int .i64 (gt xs i).1, .int .i64 (gt xs i).2] :: HeapE hb mb A c xs mp) ?_ ?_
  · refine CodeJ.rowSome (Has.there Has.here) (by omega) (fun hA hcr => ?_)
    refine code_draw (.fl 0 (.fl 1 (.fl 2 (.fl 3 (.fl 4 (.fl 5 (.fl 6 (.fl 7 (.fl 8 (.fl 9 (.fl 10 (.fl 11 (.fl 12 (.fl 13 (.two 14 15 (.ef 15 (.ef 16 (.ef 17 .done))) (.ef 14 (.ef 16 (.ef 17 .done)))))))))))))))))) (fun _ => HeapE hb mb A c xs mp) mixed (by kernel_rfl) (by kernel_rfl) (fun _ => (List.Sublist.refl _)) ?_
    refine e_fl rfl rfl (fun hs_ => PF.mk rfl (v_move rfl) hs_) ?_
    refine e_fl rfl rfl (fun hs_ => PF.mk rfl (v_nilCheck rfl) hs_) ?_
    first | refine e_fl rfl rfl (fun hs_ => PF.mk rfl (v_fieldB 0 Try.underlying97 rfl rfl fz51 rfl) hs_) ?_ | refine e_fl rfl rfl (fun hs_ => PF.mk rfl (v_fieldI 0 Try.underlying97 rfl rfl fz51 rfl (by assumption)) hs_) ?_ | refine e_fl rfl rfl (fun hs_ => PF.mk rfl (v_field Try.underlying97 rfl fz51 rfl rfl) hs_) ?_
    refine e_fl rfl rfl (fun hs_ => PF.mk rfl (v_loadA ty51 rfl rfl) hs_) ?_
    refine e_fl rfl rfl (fun hs_ => PF.mk rfl (v_move rfl) hs_) ?_
    first | refine e_fl rfl rfl (fun hs_ => PF.mk rfl (v_indexA Try.underlying51 sz57 rfl rfl) hs_) ?_ | refine e_fl rfl rfl (fun hs_ => PF.mk rfl (v_indexIA Try.underlying51 sz57 rfl rfl) hs_) ?_
    refine e_fl rfl rfl (fun hs_ => PF.mk rfl (v_loadRow ty57 rfl (Has.there Has.here) hA (ld_it hi)) hs_) ?_
    refine e_fl rfl rfl (fun hs_ => PF.mk rfl (v_move rfl) hs_) ?_
    refine e_fl rfl rfl (fun hs_ => PF.mk rfl (v_nilCheck rfl) hs_) ?_
    first | refine e_fl rfl rfl (fun hs_ => PF.mk rfl (v_fieldB 0 Try.underlying97 rfl rfl fz51 rfl) hs_) ?_ | refine e_fl rfl rfl (fun hs_ => PF.mk rfl (v_fieldI 0 Try.underlying97 rfl rfl fz51 rfl (by assumption)) hs_) ?_ | refine e_fl rfl rfl (fun hs_ => PF.mk rfl (v_field Try.underlying97 rfl fz51 rfl rfl) hs_) ?_
    refine e_fl rfl rfl (fun hs_ => PF.mk rfl (v_loadA ty51 rfl rfl) hs_) ?_
    refine e_fl rfl rfl (fun hs_ => PF.mk rfl (v_move rfl) hs_) ?_
    first | refine e_fl rfl rfl (fun hs_ => PF.mk rfl (v_indexA Try.underlying51 sz57 rfl rfl) hs_) ?_ | refine e_fl rfl rfl (fun hs_ => PF.mk rfl (v_indexIA Try.underlying51 sz57 rfl rfl) hs_) ?_
    refine e_fl rfl rfl (fun hs_ => PF.mk rfl (v_loadRow ty57 rfl (by repeat (first | exact Has.here | apply Has.there)) hA (ld_it hk)) hs_) ?_
    refine e_two rfl (by intro cs b hc; cases hc) (by intro c hc; cases hc) rfl (by intro cs b hc; cases hc) (by intro c hc; cases hc) ?_ ?_
    · refine o_alloc z57 rfl rfl (fun b7 => ?_)
      refine ops_nil ?_
      refine e_next rfl side_allA ?_
      refine e_eff rfl (by intro cs b hc; cases hc) (by intro c hc; cases hc) ?_
      refine o_alloc z57 rfl rfl (fun b8 => ?_)
      refine ops_nil ?_
      refine e_next rfl side_allA ?_
      refine e_eff rfl (by intro cs b hc; cases hc) (by intro c hc; cases hc) ?_
      refine o_store ty57 rfl rfl rfl rfl rfl (by repeat (first | exact Swap.here | apply Swap.there)) rfl ?_
      refine ops_nil ?_
      refine e_next_ side_allA ?_
      refine e_eff rfl (by intro cs b hc; cases hc) (by intro c hc; cases hc) ?_
      refine o_store ty57 rfl rfl rfl rfl rfl (by repeat (first | exact Swap.here | apply Swap.there)) rfl ?_
      refine ops_nil ?_
      refine e_next_ (side_nil (by kernel_rfl)) ?_
      refine e_done ?_
      first | exact post_meet _ ⟨b7, b8, rfl, rfl, rfl⟩ ⟨rfl, rfl, trivial⟩ | (refine PostJ.view (View.perm (List.Perm.swap _ _ _)) ?_; exact post_meet _ ⟨b7, b8, rfl, rfl, rfl⟩ ⟨rfl, rfl, trivial⟩)
    · refine o_alloc z57 rfl rfl (fun b8 => ?_)
      refine ops_nil ?_
      refine e_next rfl side_allA ?_
      refine e_eff rfl (by intro cs b hc; cases hc) (by intro c hc; cases hc) ?_
      refine o_alloc z57 rfl rfl (fun b7 => ?_)
      refine ops_nil ?_
      refine e_next rfl side_allA ?_
      refine e_eff rfl (by intro cs b hc; cases hc) (by intro c hc; cases hc) ?_
      refine o_store ty57 rfl rfl rfl rfl rfl (by repeat (first | exact Swap.here | apply Swap.there)) rfl ?_
      refine ops_nil ?_
      refine e_next_ side_allA ?_
      refine e_eff rfl (by intro cs b hc; cases hc) (by intro c hc; cases hc) ?_
      refine o_store ty57 rfl rfl rfl rfl rfl (by repeat (first | exact Swap.here | apply Swap.there)) rfl ?_
      refine ops_nil ?_
      refine e_next_ (side_nil (by kernel_rfl)) ?_
      refine e_done ?_
      first | exact post_meet _ ⟨b7, b8, rfl, rfl, rfl⟩ ⟨rfl, rfl, trivial⟩ | (refine PostJ.view (View.perm (List.Perm.swap _ _ _)) ?_; exact post_meet _ ⟨b7, b8, rfl, rfl, rfl⟩ ⟨rfl, rfl, trivial⟩)
  · rintro _ _ _ ⟨b7', b8', rfl, rfl, rfl⟩
    refine code_seq ?_
    refine code_draw (.fl 0 (.fl 1 (.fl 2 (.fl 3 (.fl 5 (.fl 6 (.fl 7 (.fl 8 (.ef 4 (.ef 9 (.ef 10 (.ef 11 (.fl 12 (.ef 13 .done)))))))))))))) (fun _ => _) mixed (by kernel_rfl) (by kernel_rfl) (fun _ => (List.Sublist.refl _)) ?_
    first | refine e_fl rfl rfl (fun hs_ => PF.mk rfl (v_fieldB 0 Try.underlying57 rfl rfl fz3 rfl) hs_) ?_ | refine e_fl rfl rfl (fun hs_ => PF.mk rfl (v_fieldI 0 Try.underlying57 rfl rfl fz3 rfl (by assumption)) hs_) ?_ | refine e_fl rfl rfl (fun hs_ => PF.mk rfl (v_field Try.underlying57 rfl fz3 rfl rfl) hs_) ?_
    refine e_fl rfl rfl (fun hs_ => PF.mk rfl (v_loadA ty3 rfl rfl) hs_) ?_
    first | refine e_fl rfl rfl (fun hs_ => PF.mk rfl (v_fieldB 0 Try.underlying57 rfl rfl fz3 rfl) hs_) ?_ | refine e_fl rfl rfl (fun hs_ => PF.mk rfl (v_fieldI 0 Try.underlying57 rfl rfl fz3 rfl (by assumption)) hs_) ?_ | refine e_fl rfl rfl (fun hs_ => PF.mk rfl (v_field Try.underlying57 rfl fz3 rfl rfl) hs_) ?_
    refine e_fl rfl rfl (fun hs_ => PF.mk rfl (v_loadA ty3 rfl rfl) hs_) ?_
    first | refine e_fl rfl rfl (fun hs_ => PF.mk rfl (v_fieldB 1 Try.underlying57 rfl rfl fz3 rfl) hs_) ?_ | refine e_fl rfl rfl (fun hs_ => PF.mk rfl (v_fieldI 1 Try.underlying57 rfl rfl fz3 rfl (by assumption)) hs_) ?_ | refine e_fl rfl rfl (fun hs_ => PF.mk rfl (v_field Try.underlying57 rfl fz3 rfl rfl) hs_) ?_
    refine e_fl rfl rfl (fun hs_ => PF.mk rfl (v_loadA ty3 rfl rfl) hs_) ?_
    first | refine e_fl rfl rfl (fun hs_ => PF.mk rfl (v_fieldB 1 Try.underlying57 rfl rfl fz3 rfl) hs_) ?_ | refine e_fl rfl rfl (fun hs_ => PF.mk rfl (v_fieldI 1 Try.underlying57 rfl rfl fz3 rfl (by assumption)) hs_) ?_ | refine e_fl rfl rfl (fun hs_ => PF.mk rfl (v_field Try.underlying57 rfl fz3 rfl rfl) hs_) ?_
    refine e_fl rfl rfl (fun hs_ => PF.mk rfl (v_loadA ty3 rfl rfl) hs_) ?_
    refine e_eff rfl (by intro cs b hc; cases hc) (by intro c hc; cases hc) ?_
    refine op_call pl66 rfl rfl ((cmpC_does)) Parts.none ?_
    rintro _ I27 _ hI27 ⟨rfl, rfl⟩
    refine ops_nil ?_
    refine e_next rfl side_allA ?_
    refine e_eff rfl (by intro cs b hc; cases hc) (by intro c hc; cases hc) ?_
    refine op_call pl66 rfl rfl ((cmpC_does)) Parts.none ?_
    rintro _ I32 _ hI32 ⟨rfl, rfl⟩
    refine ops_nil ?_
    refine e_next rfl side_allA ?_
    refine e_eff rfl (by intro cs b hc; cases hc) (by intro c hc; cases hc) ?_
    refine o_buildSlice (xs := [(Go.Operand.tmp 27), (Go.Operand.tmp 32)]) Try.underlying28 bs3 rfl rfl rfl rfl rfl (fun b33 => ?_)
    refine OpsJ.freezeRow Del.here ?_
    rintro I33 a33 c33 hI33 hq hc33 hl33 hcells33
    cases hq
    refine ops_nil ?_
    refine e_next rfl side_allA ?_
    refine e_eff rfl (by intro cs b hc; cases hc) (by intro c hc; cases hc) ?_
    refine op_call pl65 rfl rfl ((Or_does (RInts.of (xs := [ordI (gt xs i).1 (gt xs k).1, ordI (gt xs i).2 (gt xs k).2]) rfl hc33 (by omega) hcells33 (by intro x hx; simp at hx; rcases hx with rfl | rfl <;> exact ordI_inR _ _)))) Parts.none ?_
    rintro _ I34 _ hI34 ⟨rfl, rfl⟩
    refine ops_nil ?_
    refine e_next rfl side_allA ?_
    refine e_fl rfl rfl (fun hs_ => PF.mk rfl (v_cmp (z := ltB (gt xs i) (gt xs k)) rfl rfl (congrArg some (or_ltB _ _))) hs_) ?_
    refine e_eff rfl (by intro cs b hc; cases hc) (by intro c hc; cases hc) ?_
    refine op_v (v_assign rfl) rfl ?_
    refine ops_nil ?_
    refine e_next rfl (side_nil (by kernel_rfl)) ?_
    refine e_done ?_
    refine post_next ?_
    refine code_ret ?_
    refine post_ret (rs := [.tmp 6]) rfl (List.Perm.refl _) (.cons (.tmp rfl) .nil) (List.Sublist.cons _ (List.Sublist.cons _ (List.Sublist.refl _))) ?_
    exact ⟨rfl, rfl⟩
theorem swap_does {I : Imm} {hb mb c : Nat} {A : Option Addr} {xs : List It} {mp : Mp} {i k : Nat} (hi : i < xs.length) (hk : k < xs.length) (hl : xs.length ≤ 1000000000) (hat : AtOK xs mp) :
    Does Try.prog 56 [.pointer (some ⟨hb, 0, none⟩), .int .i64 i, .int .i64 k] I (HeapE hb mb A c xs mp) (fun v _ δ' => ∃ mp', AtOK (swapL xs i k) mp' ∧ δ' = HeapE hb mb A c (swapL xs i k) mp') := by
  have hsl := swapL_len xs i k
  have hset : (xs.set i (gt xs k)).length = xs.length := by simp
  have G := gt_swap hi hk
  have gk : gt (swapL xs i k) k = gt xs i := by rw [G, if_pos rfl]
  have gi : gt (swapL xs i k) i = gt xs k := by rw [G]; split; (rename_i e; rw [e]); rw [if_pos rfl]
  refine Does.intro Try.func56 rfl Try.ntmps56 rfl fun w0 => ?_
  refine code_seq ?_
  refine CodeJ.rowSome (Has.there Has.here) (by omega) (fun hA hcr => ?_)
  refine code_draw (.fl 0 (.fl 1 (.fl 2 (.fl 3 (.fl 4 (.fl 5 (.fl 6 (.fl 7 (.fl 8 (.fl 9 (.fl 10 (.fl 11 (.fl 12 (.fl 13 (.fl 14 (.fl 15 (.fl 16 (.fl 17 (.fl 18 (.fl 19 (.fl 20 (.fl 21 (.fl 22 (.fl 23 (.fl 24 (.ef 25 (.fl 26 (.ef 27 .done)))))))))))))))))))))))))))) (keepP [3, 8, 13, 16, 20, 23] (HeapE hb mb A c xs mp)) mixed (by kernel_rfl) (by kernel_rfl) (keepP_sub (List.Sublist.refl _)) ?_
  refine e_float rfl rfl (fun hs_ => PF.mk rfl (v_move rfl) hs_) Imm.leA (by first | exact keepP_mem (by intro x hx; exact hx) _ | exact (fun x hx => nomatch (show x ∈ ([] : List Ent) from hx))) ?_
  refine e_float rfl rfl (fun hs_ => PF.mk rfl (v_nilCheck rfl) hs_) Imm.leA (by first | exact keepP_mem (by intro x hx; exact hx) _ | exact (fun x hx => nomatch (show x ∈ ([] : List Ent) from hx))) ?_
  first | refine e_float rfl rfl (fun hs_ => PF.mk rfl (v_fieldB 0 Try.underlying97 rfl rfl fz51 rfl) hs_) Imm.leA (by first | exact keepP_mem (by intro x hx; exact hx) _ | exact (fun x hx => nomatch (show x ∈ ([] : List Ent) from hx))) ?_ | refine e_float rfl rfl (fun hs_ => PF.mk rfl (v_fieldI 0 Try.underlying97 rfl rfl fz51 rfl (by assumption)) hs_) Imm.leA (by first | exact keepP_mem (by intro x hx; exact hx) _ | exact (fun x hx => nomatch (show x ∈ ([] : List Ent) from hx))) ?_ | refine e_float rfl rfl (fun hs_ => PF.mk rfl (v_field Try.underlying97 rfl fz51 rfl rfl) hs_) Imm.leA (by first | exact keepP_mem (by intro x hx; exact hx) _ | exact (fun x hx => nomatch (show x ∈ ([] : List Ent) from hx))) ?_
  refine e_float rfl rfl (fun hs_ => PF.mk rfl (v_loadA ty51 rfl rfl) hs_) Imm.leA (by first | exact keepP_mem (by intro x hx; exact hx) _ | exact (fun x hx => nomatch (show x ∈ ([] : List Ent) from hx))) ?_
  refine e_float rfl rfl (fun hs_ => PF.mk rfl (v_move rfl) hs_) Imm.leA (by first | exact keepP_mem (by intro x hx; exact hx) _ | exact (fun x hx => nomatch (show x ∈ ([] : List Ent) from hx))) ?_
  refine e_float rfl rfl (fun hs_ => PF.mk rfl (v_move rfl) hs_) Imm.leA (by first | exact keepP_mem (by intro x hx; exact hx) _ | exact (fun x hx => nomatch (show x ∈ ([] : List Ent) from hx))) ?_
  refine e_float rfl rfl (fun hs_ => PF.mk rfl (v_nilCheck rfl) hs_) Imm.leA (by first | exact keepP_mem (by intro x hx; exact hx) _ | exact (fun x hx => nomatch (show x ∈ ([] : List Ent) from hx))) ?_
  first | refine e_float rfl rfl (fun hs_ => PF.mk rfl (v_fieldB 0 Try.underlying97 rfl rfl fz51 rfl) hs_) Imm.leA (by first | exact keepP_mem (by intro x hx; exact hx) _ | exact (fun x hx => nomatch (show x ∈ ([] : List Ent) from hx))) ?_ | refine e_float rfl rfl (fun hs_ => PF.mk rfl (v_fieldI 0 Try.underlying97 rfl rfl fz51 rfl (by assumption)) hs_) Imm.leA (by first | exact keepP_mem (by intro x hx; exact hx) _ | exact (fun x hx => nomatch (show x ∈ ([] : List Ent) from hx))) ?_ | refine e_float rfl rfl (fun hs_ => PF.mk rfl (v_field Try.underlying97 rfl fz51 rfl rfl) hs_) Imm.leA (by first | exact keepP_mem (by intro x hx; exact hx) _ | exact (fun x hx => nomatch (show x ∈ ([] : List Ent) from hx))) ?_
  refine e_float rfl rfl (fun hs_ => PF.mk rfl (v_loadA ty51 rfl rfl) hs_) Imm.leA (by first | exact keepP_mem (by intro x hx; exact hx) _ | exact (fun x hx => nomatch (show x ∈ ([] : List Ent) from hx))) ?_
  refine e_float rfl rfl (fun hs_ => PF.mk rfl (v_move rfl) hs_) Imm.leA (by first | exact keepP_mem (by intro x hx; exact hx) _ | exact (fun x hx => nomatch (show x ∈ ([] : List Ent) from hx))) ?_
  refine e_float rfl rfl (fun hs_ => PF.mk rfl (v_move rfl) hs_) Imm.leA (by first | exact keepP_mem (by intro x hx; exact hx) _ | exact (fun x hx => nomatch (show x ∈ ([] : List Ent) from hx))) ?_
  refine e_float rfl rfl (fun hs_ => PF.mk rfl (v_nilCheck rfl) hs_) Imm.leA (by first | exact keepP_mem (by intro x hx; exact hx) _ | exact (fun x hx => nomatch (show x ∈ ([] : List Ent) from hx))) ?_
  first | refine e_float rfl rfl (fun hs_ => PF.mk rfl (v_fieldB 0 Try.underlying97 rfl rfl fz51 rfl) hs_) Imm.leA (by first | exact keepP_mem (by intro x hx; exact hx) _ | exact (fun x hx => nomatch (show x ∈ ([] : List Ent) from hx))) ?_ | refine e_float rfl rfl (fun hs_ => PF.mk rfl (v_fieldI 0 Try.underlying97 rfl rfl fz51 rfl (by assumption)) hs_) Imm.leA (by first | exact keepP_mem (by intro x hx; exact hx) _ | exact (fun x hx => nomatch (show x ∈ ([] : List Ent) from hx))) ?_ | refine e_float rfl rfl (fun hs_ => PF.mk rfl (v_field Try.underlying97 rfl fz51 rfl rfl) hs_) Imm.leA (by first | exact keepP_mem (by intro x hx; exact hx) _ | exact (fun x hx => nomatch (show x ∈ ([] : List Ent) from hx))) ?_
  refine e_float rfl rfl (fun hs_ => PF.mk rfl (v_loadA ty51 rfl rfl) hs_) Imm.leA (by first | exact keepP_mem (by intro x hx; exact hx) _ | exact (fun x hx => nomatch (show x ∈ ([] : List Ent) from hx))) ?_
  refine e_float rfl rfl (fun hs_ => PF.mk rfl (v_move rfl) hs_) Imm.leA (by first | exact keepP_mem (by intro x hx; exact hx) _ | exact (fun x hx => nomatch (show x ∈ ([] : List Ent) from hx))) ?_
  first | refine e_float rfl rfl (fun hs_ => PF.mk rfl (v_indexA Try.underlying51 sz57 rfl rfl) hs_) Imm.leA (by first | exact keepP_mem (by intro x hx; exact hx) _ | exact (fun x hx => nomatch (show x ∈ ([] : List Ent) from hx))) ?_ | refine e_float rfl rfl (fun hs_ => PF.mk rfl (v_indexIA Try.underlying51 sz57 rfl rfl) hs_) Imm.leA (by first | exact keepP_mem (by intro x hx; exact hx) _ | exact (fun x hx => nomatch (show x ∈ ([] : List Ent) from hx))) ?_
  refine e_float rfl rfl (fun hs_ => PF.mk rfl (v_loadRow ty57 rfl (Has.there Has.here) hA (ld_it hk)) hs_) Imm.leA (by first | exact keepP_mem (by intro x hx; exact hx) _ | exact (fun x hx => nomatch (show x ∈ ([] : List Ent) from hx))) ?_
  refine e_float rfl rfl (fun hs_ => PF.mk rfl (v_move rfl) hs_) Imm.leA (by first | exact keepP_mem (by intro x hx; exact hx) _ | exact (fun x hx => nomatch (show x ∈ ([] : List Ent) from hx))) ?_
  refine e_float rfl rfl (fun hs_ => PF.mk rfl (v_nilCheck rfl) hs_) Imm.leA (by first | exact keepP_mem (by intro x hx; exact hx) _ | exact (fun x hx => nomatch (show x ∈ ([] : List Ent) from hx))) ?_
  first | refine e_float rfl rfl (fun hs_ => PF.mk rfl (v_fieldB 0 Try.underlying97 rfl rfl fz51 rfl) hs_) Imm.leA (by first | exact keepP_mem (by intro x hx; exact hx) _ | exact (fun x hx => nomatch (show x ∈ ([] : List Ent) from hx))) ?_ | refine e_float rfl rfl (fun hs_ => PF.mk rfl (v_fieldI 0 Try.underlying97 rfl rfl fz51 rfl (by assumption)) hs_) Imm.leA (by first | exact keepP_mem (by intro x hx; exact hx) _ | exact (fun x hx => nomatch (show x ∈ ([] : List Ent) from hx))) ?_ | refine e_float rfl rfl (fun hs_ => PF.mk rfl (v_field Try.underlying97 rfl fz51 rfl rfl) hs_) Imm.leA (by first | exact keepP_mem (by intro x hx; exact hx) _ | exact (fun x hx => nomatch (show x ∈ ([] : List Ent) from hx))) ?_
  refine e_float rfl rfl (fun hs_ => PF.mk rfl (v_loadA ty51 rfl rfl) hs_) Imm.leA (by first | exact keepP_mem (by intro x hx; exact hx) _ | exact (fun x hx => nomatch (show x ∈ ([] : List Ent) from hx))) ?_
  refine e_float rfl rfl (fun hs_ => PF.mk rfl (v_move rfl) hs_) Imm.leA (by first | exact keepP_mem (by intro x hx; exact hx) _ | exact (fun x hx => nomatch (show x ∈ ([] : List Ent) from hx))) ?_
  first | refine e_float rfl rfl (fun hs_ => PF.mk rfl (v_indexA Try.underlying51 sz57 rfl rfl) hs_) Imm.leA (by first | exact keepP_mem (by intro x hx; exact hx) _ | exact (fun x hx => nomatch (show x ∈ ([] : List Ent) from hx))) ?_ | refine e_float rfl rfl (fun hs_ => PF.mk rfl (v_indexIA Try.underlying51 sz57 rfl rfl) hs_) Imm.leA (by first | exact keepP_mem (by intro x hx; exact hx) _ | exact (fun x hx => nomatch (show x ∈ ([] : List Ent) from hx))) ?_
  refine e_float rfl rfl (fun hs_ => PF.mk rfl (v_loadRow ty57 rfl (Has.there Has.here) hA (ld_it hi)) hs_) Imm.leA (by first | exact keepP_mem (by intro x hx; exact hx) _ | exact (fun x hx => nomatch (show x ∈ ([] : List Ent) from hx))) ?_
  first | refine e_float rfl rfl (fun hs_ => PF.mk rfl (v_indexA Try.underlying51 sz57 rfl rfl) hs_) Imm.leA (by first | exact keepP_mem (by intro x hx; exact hx) _ | exact (fun x hx => nomatch (show x ∈ ([] : List Ent) from hx))) ?_ | refine e_float rfl rfl (fun hs_ => PF.mk rfl (v_indexIA Try.underlying51 sz57 rfl rfl) hs_) Imm.leA (by first | exact keepP_mem (by intro x hx; exact hx) _ | exact (fun x hx => nomatch (show x ∈ ([] : List Ent) from hx))) ?_
  refine e_eff rfl (by intro cs b hc; cases hc) (by intro c hc; cases hc) ?_
  refine o_storeRow (xs' := itL (xs.set i (gt xs k))) ty57 rfl rfl hA rfl rfl rfl (by simp [cellsL]) (Swap.there Swap.here) (stL_it hi (gt xs k)) ?_
  refine ops_nil ?_
  refine e_next_ (side_P (by kernel_rfl) Imm.leA) ?_
  first | refine e_float rfl rfl (fun hs_ => PF.mk rfl (v_indexA Try.underlying51 sz57 rfl rfl) hs_) Imm.leA (by first | exact keepP_mem (by intro x hx; exact hx) _ | exact (fun x hx => nomatch (show x ∈ ([] : List Ent) from hx))) ?_ | refine e_float rfl rfl (fun hs_ => PF.mk rfl (v_indexIA Try.underlying51 sz57 rfl rfl) hs_) Imm.leA (by first | exact keepP_mem (by intro x hx; exact hx) _ | exact (fun x hx => nomatch (show x ∈ ([] : List Ent) from hx))) ?_
  refine e_eff rfl (by intro cs b hc; cases hc) (by intro c hc; cases hc) ?_
  refine o_storeRow (xs' := itL (swapL xs i k)) ty57 rfl rfl hA rfl rfl rfl (by simp [cellsL]) (Swap.there Swap.here) (stL_it (xs := xs.set i (gt xs k)) (by rw [hset]; exact hk) (gt xs i)) ?_
  refine ops_nil ?_
  refine e_next_ (side_nil (by kernel_rfl)) ?_
  refine e_done ?_
  refine post_next ?_
  refine code_draw (.fl 0 (.fl 1 (.fl 2 (.fl 3 (.fl 4 (.fl 5 (.fl 6 (.fl 7 (.fl 8 (.fl 9 (.fl 10 (.fl 11 (.fl 12 (.fl 13 (.fl 14 (.fl 15 (.fl 16 (.fl 17 (.fl 18 (.fl 19 (.fl 20 (.fl 21 (.fl 22 (.fl 23 (.fl 24 (.fl 25 (.ef 26 (.fl 27 (.ef 28 (.ef 29 (.fl 30 (.ef 31 .done)))))))))))))))))))))))))))))))) (fun _ => [.box hb 97 [.slice A xs.length c, .map (some mb)], .row (.slice A xs.length c) 57 2 xs.length (itL (swapL xs i k))]) mixed (by kernel_rfl) (by kernel_rfl) (fun _ => (List.Sublist.cons_cons _ (List.Sublist.cons_cons _ (List.nil_sublist _)))) ?_
  refine e_fl rfl rfl (fun hs_ => PF.mk rfl (v_move rfl) hs_) ?_
  refine e_fl rfl rfl (fun hs_ => PF.mk rfl (v_nilCheck rfl) hs_) ?_
  first | refine e_fl rfl rfl (fun hs_ => PF.mk rfl (v_fieldB 1 Try.underlying97 rfl rfl fz95 rfl) hs_) ?_ | refine e_fl rfl rfl (fun hs_ => PF.mk rfl (v_fieldI 1 Try.underlying97 rfl rfl fz95 rfl (by assumption)) hs_) ?_ | refine e_fl rfl rfl (fun hs_ => PF.mk rfl (v_field Try.underlying97 rfl fz95 rfl rfl) hs_) ?_
  refine e_fl rfl rfl (fun hs_ => PF.mk rfl (v_loadA ty95 rfl rfl) hs_) ?_
  refine e_fl rfl rfl (fun hs_ => PF.mk rfl (v_move rfl) hs_) ?_
  refine e_fl rfl rfl (fun hs_ => PF.mk rfl (v_nilCheck rfl) hs_) ?_
  first | refine e_fl rfl rfl (fun hs_ => PF.mk rfl (v_fieldB 0 Try.underlying97 rfl rfl fz51 rfl) hs_) ?_ | refine e_fl rfl rfl (fun hs_ => PF.mk rfl (v_fieldI 0 Try.underlying97 rfl rfl fz51 rfl (by assumption)) hs_) ?_ | refine e_fl rfl rfl (fun hs_ => PF.mk rfl (v_field Try.underlying97 rfl fz51 rfl rfl) hs_) ?_
  refine e_fl rfl rfl (fun hs_ => PF.mk rfl (v_loadA ty51 rfl rfl) hs_) ?_
  refine e_fl rfl rfl (fun hs_ => PF.mk rfl (v_move rfl) hs_) ?_
  first | refine e_fl rfl rfl (fun hs_ => PF.mk rfl (v_indexA Try.underlying51 sz57 rfl rfl) hs_) ?_ | refine e_fl rfl rfl (fun hs_ => PF.mk rfl (v_indexIA Try.underlying51 sz57 rfl rfl) hs_) ?_
  first | refine e_fl rfl rfl (fun hs_ => PF.mk rfl (v_fieldB 1 Try.underlying57 rfl rfl fz3 rfl) hs_) ?_ | refine e_fl rfl rfl (fun hs_ => PF.mk rfl (v_fieldI 1 Try.underlying57 rfl rfl fz3 rfl (by assumption)) hs_) ?_ | refine e_fl rfl rfl (fun hs_ => PF.mk rfl (v_field Try.underlying57 rfl fz3 rfl rfl) hs_) ?_
  refine e_fl rfl rfl (fun hs_ => PF.mk rfl (v_loadRow ty3 rfl (Has.there Has.here) hA (ld_id (xs := swapL xs i k) (by rw [hsl]; exact hi))) hs_) ?_
  refine e_fl rfl rfl (fun hs_ => PF.mk rfl (v_move rfl) hs_) ?_
  refine e_fl rfl rfl (fun hs_ => PF.mk rfl (v_nilCheck rfl) hs_) ?_
  first | refine e_fl rfl rfl (fun hs_ => PF.mk rfl (v_fieldB 1 Try.underlying97 rfl rfl fz95 rfl) hs_) ?_ | refine e_fl rfl rfl (fun hs_ => PF.mk rfl (v_fieldI 1 Try.underlying97 rfl rfl fz95 rfl (by assumption)) hs_) ?_ | refine e_fl rfl rfl (fun hs_ => PF.mk rfl (v_field Try.underlying97 rfl fz95 rfl rfl) hs_) ?_
  refine e_fl rfl rfl (fun hs_ => PF.mk rfl (v_loadA ty95 rfl rfl) hs_) ?_
  refine e_fl rfl rfl (fun hs_ => PF.mk rfl (v_move rfl) hs_) ?_
  refine e_fl rfl rfl (fun hs_ => PF.mk rfl (v_nilCheck rfl) hs_) ?_
  first | refine e_fl rfl rfl (fun hs_ => PF.mk rfl (v_fieldB 0 Try.underlying97 rfl rfl fz51 rfl) hs_) ?_ | refine e_fl rfl rfl (fun hs_ => PF.mk rfl (v_fieldI 0 Try.underlying97 rfl rfl fz51 rfl (by assumption)) hs_) ?_ | refine e_fl rfl rfl (fun hs_ => PF.mk rfl (v_field Try.underlying97 rfl fz51 rfl rfl) hs_) ?_
  refine e_fl rfl rfl (fun hs_ => PF.mk rfl (v_loadA ty51 rfl rfl) hs_) ?_
  refine e_fl rfl rfl (fun hs_ => PF.mk rfl (v_move rfl) hs_) ?_
  first | refine e_fl rfl rfl (fun hs_ => PF.mk rfl (v_indexA Try.underlying51 sz57 rfl rfl) hs_) ?_ | refine e_fl rfl rfl (fun hs_ => PF.mk rfl (v_indexIA Try.underlying51 sz57 rfl rfl) hs_) ?_
  first | refine e_fl rfl rfl (fun hs_ => PF.mk rfl (v_fieldB 1 Try.underlying57 rfl rfl fz3 rfl) hs_) ?_ | refine e_fl rfl rfl (fun hs_ => PF.mk rfl (v_fieldI 1 Try.underlying57 rfl rfl fz3 rfl (by assumption)) hs_) ?_ | refine e_fl rfl rfl (fun hs_ => PF.mk rfl (v_field Try.underlying57 rfl fz3 rfl rfl) hs_) ?_
  refine e_fl rfl rfl (fun hs_ => PF.mk rfl (v_loadRow ty3 rfl (Has.there Has.here) hA (ld_id (xs := swapL xs i k) (by rw [hsl]; exact hk))) hs_) ?_
  refine e_fl rfl rfl (fun hs_ => PF.mk rfl (v_move rfl) hs_) ?_
  refine e_fl rfl rfl (fun hs_ => PF.mk rfl (v_move rfl) hs_) ?_
  refine e_eff rfl (by intro cs b hc; cases hc) (by intro c hc; cases hc) ?_
  refine o_mapEntry (δ' := fun es ck => [.box hb 97 [.slice A xs.length c, .map (some mb)], .row (.slice A xs.length c) 57 2 xs.length (itL (swapL xs i k)), .obj mb (.map es ck)]) Try.underlying95 Try.underlying3 z3 (by rfl) (by rfl) (by rfl) (fun _ _ => Swap.there (Swap.there Swap.here)) (fun es58 ck58 s58 hmi58 hst58 => ?_)
  refine ops_nil ?_
  refine e_next rfl side_allA ?_
  refine e_fl rfl rfl (fun hs_ => PF.mk rfl (v_extract rfl rfl) hs_) ?_
  refine e_eff rfl (by intro cs b hc; cases hc) (by intro c hc; cases hc) ?_
  refine o_entryStore hmi58 hst58 rfl rfl rfl rfl (Swap.there (Swap.there Swap.here)) ?_
  refine ops_nil ?_
  refine e_next_ side_allA ?_
  refine e_eff rfl (by intro cs b hc; cases hc) (by intro c hc; cases hc) ?_
  refine o_mapEntry (δ' := fun es ck => [.box hb 97 [.slice A xs.length c, .map (some mb)], .row (.slice A xs.length c) 57 2 xs.length (itL (swapL xs i k)), .obj mb (.map es ck)]) Try.underlying95 Try.underlying3 z3 (by rfl) (by rfl) (by rfl) (fun _ _ => Swap.there (Swap.there Swap.here)) (fun es60 ck60 s60 hmi60 hst60 => ?_)
  refine ops_nil ?_
  refine e_next rfl side_allA ?_
  refine e_fl rfl rfl (fun hs_ => PF.mk rfl (v_extract rfl rfl) hs_) ?_
  refine e_eff rfl (by intro cs b hc; cases hc) (by intro c hc; cases hc) ?_
  refine o_entryStore hmi60 hst60 rfl rfl rfl rfl (Swap.there (Swap.there Swap.here)) ?_
  refine ops_nil ?_
  refine e_next_ (side_nil (by kernel_rfl)) ?_
  refine e_done ?_
  have hfin : ∀ m, AtOK (swapL xs i k) m → ∃ mp', AtOK (swapL xs i k) mp' ∧ ([.box hb 97 [.slice A xs.length c, .map (some mb)], .row (.slice A xs.length c) 57 2 xs.length (itL (swapL xs i k)), .map mb m] : List Ent) = HeapE hb mb A c (swapL xs i k) mp' := fun m h => ⟨m, h, by simp only [HeapE, hsl]⟩
  refine post_end (rs := []) rfl (List.Perm.refl _) .nil (List.Sublist.refl _) (hfin _ (hat.swap hi hk ?_))
  intro q; rw [mput_mput, mput_mput, mget_mput, mget_mput, gk, gi]
end Go.Proofs.Ythbcdffldcdfoaa
