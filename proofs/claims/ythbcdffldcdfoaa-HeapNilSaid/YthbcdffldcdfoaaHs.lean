/- Walks: the example of the chapter on heaps. -/
import Derived.Test.YthbcdffldcdfoaaHr
set_option linter.unusedVariables false
set_option linter.unusedSimpArgs false
set_option linter.unnecessarySimpa false
/- short -/
namespace Go.Proofs.Ythbcdffldcdfoaa
open Go Lg

theorem PutH.ok {xs ys zs : List It} {x : It} {e : Int} (h : PutH xs x e ys) (hp : xs.Perm zs) (hn : x.2 ∉ zs.map (·.2)) (hl : zs.length < 4096) : e = 0 ∧ ys.Perm (zs ++ [x]) := by
  have hlen := hp.length_eq
  have hm : x.2 ∉ xs.map (·.2) := fun q => hn ((hp.map (fun x : It => x.2)).mem_iff.1 q)
  rcases h with ⟨h1, _⟩ | ⟨_, h1, _⟩ | ⟨_, _, h1, h2⟩
  · exact absurd h1 hm
  · omega
  · exact ⟨h1, h2.trans (hp.append_right _)⟩
def q9 (n : Nat) : List It := (List.range n).map fun j : Nat => ((9 : Int) - j, (j : Int))
theorem q9_succ (n : Nat) : q9 (n + 1) = q9 n ++ [((9 : Int) - n, (n : Int))] := by simp [q9, List.range_succ]
theorem q9_new (n : Nat) : (n : Int) ∉ (q9 n).map (·.2) := by
  intro h
  simp only [q9, List.map_map, List.mem_map, List.mem_range, Function.comp] at h
  obtain ⟨j, hj, e⟩ := h
  omega
theorem q9_len (n : Nat) : (q9 n).length = n := by simp [q9]
theorem awake18_does (I : Imm) :
    Does Try.prog 31 [] I [] (fun v I' δ' => v = .bool true ∧ δ' = []) := by
  refine Does.intro Try.func31 rfl Try.ntmps31 rfl fun w0 => ?_
  refine code_seq ?_
  refine code_region ?_
  refine op_v (v_assign rfl) rfl ?_
  refine ops_nil ?_
  refine post_next ?_
  refine code_seq ?_
  refine code_region ?_
  refine op_call pl23 rfl rfl ((HNew_does _)) Parts.none ?_
  rintro v11 I11 _ hI11 ⟨hb, mb, rfl, rfl⟩
  refine op_v (v_assign rfl) rfl ?_
  refine ops_nil ?_
  refine post_next ?_
  refine code_seq ?_
  refine code_region ?_
  refine op_call pl32 rfl rfl ((Ratio_does)) Parts.none ?_
  rintro v13 I13 δ13 hI13 HR13
  obtain ⟨q, rfl, hQ⟩ : ∃ q, v13 = .tuple #[.pointer (some ⟨q.qb, 0, none⟩), .int .i64 0] ∧ QE q 1 1 0 [] δ13 := by
    rcases HR13 with ⟨h, _⟩ | ⟨_, h⟩
    · omega
    · exact h
  refine op_v (v_move rfl) rfl ?_
  refine op_v (v_extract rfl rfl) rfl ?_
  refine op_v (v_extract rfl rfl) rfl ?_
  refine op_v (v_assign rfl) rfl ?_
  refine op_v (v_assign rfl) rfl ?_
  refine ops_nil ?_
  refine post_next ?_
  refine code_seq ?_
  refine code_seq ?_
  refine code_region ?_
  refine op_v (v_move rfl) rfl ?_
  refine op_v (v_ptrq (z := false) Try.underlying48 rfl rfl rfl) rfl ?_
  refine op_v (v_move rfl) rfl ?_
  first
    | (refine op_want rfl rfl ?_
       refine op_v (v_move rfl) rfl ?_)
    | (refine op_skip rfl rfl (by simp [undef]) rfl ?_)
  first
    | (refine op_want rfl rfl ?_
       refine op_v (v_ptrq (z := false) Try.underlying62 rfl rfl rfl) rfl ?_)
    | (refine op_skip rfl rfl (by simp [undef]) rfl ?_)
  first | refine op_v (v_pickt rfl rfl) rfl ?_ | refine op_v (v_pickf rfl rfl) rfl ?_ | refine op_v (v_pickb rfl rfl rfl) rfl ?_
  refine op_v (v_move rfl) rfl ?_
  first
    | (refine op_want rfl rfl ?_
       refine op_v (v_move rfl) rfl ?_)
    | (refine op_skip rfl rfl (by simp [undef]) rfl ?_)
  first
    | (refine op_want rfl rfl ?_
       first | refine op_v (v_cmptA rfl rfl rfl) rfl ?_ | refine op_v (v_cmpfA rfl rfl rfl) rfl ?_ | refine op_v (v_cmp rfl rfl rfl) rfl ?_)
    | (refine op_skip rfl rfl (by simp [undef]) rfl ?_)
  first | refine op_v (v_pickt rfl rfl) rfl ?_ | refine op_v (v_pickf rfl rfl) rfl ?_ | refine op_v (v_pickb rfl rfl rfl) rfl ?_
  refine op_v (v_move rfl) rfl ?_
  first
    | (refine op_want rfl rfl ?_
       refine op_v (v_move rfl) rfl ?_)
    | (refine op_skip rfl rfl (by simp [undef]) rfl ?_)
  first
    | (refine op_want rfl rfl ?_
       refine op_v (v_build (cs := [.int .i64 5, .int .i64 1]) bl57 rfl rfl) rfl ?_)
    | (refine op_skip rfl rfl (by simp [undef]) rfl ?_)
  first
    | (refine op_want rfl rfl ?_
       refine op_call pl24 rfl rfl ((HPut_does (x := (5, 1)) (by simp) ⟨(fun j h => absurd h (by simp)), fun _ _ => rfl⟩ (fun j _ h => absurd h (by simp)))) (List.perm_append_comm (l₁ := δ13) (l₂ := [_, _, _])) ?_
       rintro v29 I29 _ hI29 ⟨e29, A29, c29, ys29, mq29, rfl, hr29, hl29, ho29, hh29, rfl⟩
       obtain ⟨rfl, hp29⟩ := hr29.ok (zs := []) (List.Perm.refl _) (by simp) (by simp))
    | (refine op_skip rfl rfl (by simp [undef]) rfl ?_)
  first
    | (refine op_want rfl rfl ?_
       first | refine op_v (v_cmptA rfl rfl rfl) rfl ?_ | refine op_v (v_cmpfA rfl rfl rfl) rfl ?_ | refine op_v (v_cmp rfl rfl rfl) rfl ?_)
    | (refine op_skip rfl rfl (by simp [undef]) rfl ?_)
  first | refine op_v (v_pickt rfl rfl) rfl ?_ | refine op_v (v_pickf rfl rfl) rfl ?_ | refine op_v (v_pickb rfl rfl rfl) rfl ?_
  refine op_v (v_move rfl) rfl ?_
  first
    | (refine op_want rfl rfl ?_
       refine op_v (v_move rfl) rfl ?_)
    | (refine op_skip rfl rfl (by simp [undef]) rfl ?_)
  first
    | (refine op_want rfl rfl ?_
       refine op_v (v_build (cs := [.int .i64 2, .int .i64 9]) bl57 rfl rfl) rfl ?_)
    | (refine op_skip rfl rfl (by simp [undef]) rfl ?_)
  first
    | (refine op_want rfl rfl ?_
       refine op_call pl24 rfl rfl ((HPut_does (x := (2, 9)) hl29 ho29 hh29)) (List.Perm.refl _) ?_
       rintro v35 I35 _ hI35 ⟨e35, A35, c35, ys35, mq35, rfl, hr35, hl35, ho35, hh35, rfl⟩
       obtain ⟨rfl, hp35⟩ := hr35.ok hp29 (by decide) (by decide))
    | (refine op_skip rfl rfl (by simp [undef]) rfl ?_)
  first
    | (refine op_want rfl rfl ?_
       first | refine op_v (v_cmptA rfl rfl rfl) rfl ?_ | refine op_v (v_cmpfA rfl rfl rfl) rfl ?_ | refine op_v (v_cmp rfl rfl rfl) rfl ?_)
    | (refine op_skip rfl rfl (by simp [undef]) rfl ?_)
  first | refine op_v (v_pickt rfl rfl) rfl ?_ | refine op_v (v_pickf rfl rfl) rfl ?_ | refine op_v (v_pickb rfl rfl rfl) rfl ?_
  refine ops_nil ?_
  refine post_next ?_
  refine code_cond_f rfl ?_
  refine code_skip ?_
  refine post_next ?_
  refine code_seq ?_
  refine code_region ?_
  refine op_v (v_move rfl) rfl ?_
  refine op_call pl28 rfl rfl ((HMin_does (by omega))) (List.Perm.refl _) ?_
  rintro v40 I40 _ hI40 ⟨rfl, rfl⟩
  have hl2 : ys35.length = 2 := hp35.length_eq
  have hmin : gt ys35 0 = (2, 9) := by
    have h1 := hp35.mem_iff.1 (gt_mem (xs := ys35) (by omega))
    have h2 := min_mem hh35 (hp35.mem_iff.2 (show ((2 : Int), (9 : Int)) ∈ _ by simp))
    simp at h1
    rcases h1 with h1 | h1
    · rw [h1] at h2; unfold leI at h2; simp at h2
    · exact h1
  rw [hmin, hl2]
  refine op_v (v_move rfl) rfl ?_
  refine op_v (v_extract rfl rfl) rfl ?_
  refine op_v (v_extract rfl rfl) rfl ?_
  refine o_alloc z57 rfl rfl (fun b4 => ?_)
  refine o_store ty57 rfl rfl rfl rfl rfl (by repeat (first | exact Swap.here | apply Swap.there)) rfl ?_
  refine op_v (v_assign rfl) rfl ?_
  refine ops_nil ?_
  refine post_next ?_
  refine code_seq ?_
  refine code_seq ?_
  refine code_region ?_
  refine op_v (v_assign rfl) rfl ?_
  refine ops_nil ?_
  refine post_next ?_
  refine code_block ?_
  refine code_loop (fun m σ' I' δ' => ∃ (k : Nat) (ys : List It) (δq : List Ent), m = 3 - k ∧ k ≤ 3 ∧ σ' = [(1, .pointer (some ⟨hb, 0, none⟩)), (2, .pointer (some ⟨q.qb, 0, none⟩)), (4, .pointer (some ⟨b4, 0, none⟩)), (5, .bool true), (6, .int .i64 k)] ∧ I40.le I' ∧ δ' = .box b4 57 [.int .i64 2, .int .i64 9] :: (HeapE hb mb A35 c35 ys35 mq35 ++ δq) ∧ QE q 1 1 0 ys δq ∧ ys.Perm (q9 k)) 3 [(1, .pointer (some ⟨hb, 0, none⟩)), (2, .pointer (some ⟨q.qb, 0, none⟩)), (4, .pointer (some ⟨b4, 0, none⟩)), (5, .bool true), (6, .int .i64 (0 : Nat))] ⟨0, [], δ13, rfl, by omega, rfl, Imm.le_refl _, rfl, hQ, List.Perm.refl _⟩ ⟨rfl, rfl, rfl, rfl, rfl, trivial⟩ ?_
  rintro m _ I1 _ ⟨k, ys, δq, rfl, hk, rfl, hI1, rfl, hq, hp⟩
  refine code_seq ?_
  refine code_seq ?_
  refine code_region ?_
  refine op_v (v_move rfl) rfl ?_
  first | refine op_v (v_cmptA rfl rfl rfl) rfl ?_ | refine op_v (v_cmpfA rfl rfl rfl) rfl ?_ | refine op_v (v_cmp rfl rfl rfl) rfl ?_
  refine ops_nil ?_
  refine post_next ?_
  refine code_cond rfl (fun hc1 => ?_) (fun hc1 => ?_)
  · have hlt : k < 3 := by have h := hc1; simp at h; omega
    refine code_skip ?_
    refine post_next ?_
    refine code_seq ?_
    refine code_block ?_
    refine code_seq ?_
    refine code_region ?_
    refine op_v (v_move rfl) rfl ?_
    refine op_v (v_move rfl) rfl ?_
    refine op_v (v_move rfl) rfl ?_
    first | refine op_v (v_subb rfl rfl rfl (by omega)) rfl ?_ | refine op_v (v_sub rfl rfl) rfl ?_
    refine op_call pl34 rfl rfl ((QPut_does hq)) (List.perm_append_comm (l₁ := [_, _, _, _])) ?_
    rintro v51 I51 δ51 hI51 ⟨e51, zs51, rfl, hr51, hq51⟩
    obtain ⟨rfl, hp51⟩ := hr51.ok hp (q9_new k) (by rw [q9_len]; omega)
    first | refine op_v (v_cmptA rfl rfl rfl) rfl ?_ | refine op_v (v_cmpfA rfl rfl rfl) rfl ?_ | refine op_v (v_cmp rfl rfl rfl) rfl ?_
    refine ops_nil ?_
    refine post_next ?_
    refine code_cond_f rfl ?_
    refine code_skip ?_
    refine post_out ?_
    refine post_next ?_
    refine code_region ?_
    refine op_v (v_move rfl) rfl ?_
    first | refine op_v (v_addb rfl rfl rfl (by omega)) rfl ?_ | refine op_v (v_add rfl rfl) rfl ?_
    refine op_v (v_assign rfl) rfl ?_
    refine ops_nil ?_
    refine PostJ.view (View.perm (List.perm_append_comm (l₂ := [_, _, _, _]))) ?_
    refine post_again (3 - (k + 1)) [(1, .pointer (some ⟨hb, 0, none⟩)), (2, .pointer (some ⟨q.qb, 0, none⟩)), (4, .pointer (some ⟨b4, 0, none⟩)), (5, .bool true), (6, .int .i64 (k + 1 : Nat))] (by omega) ⟨k + 1, zs51, δ51, rfl, hlt, rfl, Imm.leA, rfl, hq51, by rw [q9_succ]; exact hp51⟩ ⟨rfl, rfl, rfl, rfl, rfl, trivial⟩
  · have hge : k = 3 := by have h := hc1; simp at h; omega
    subst hge
    refine code_exit ?_
    refine post_exit_then ?_
    refine post_exit_then ?_
    refine post_exit ?_
    refine post_next ?_
    refine code_seq ?_
    refine code_region ?_
    refine op_v (v_move rfl) rfl ?_
    refine op_call pl35 rfl rfl ((QNext_does hq (by omega) (by omega) (by omega) (by omega))) (List.perm_append_comm (l₁ := [_, _, _, _])) ?_
    rintro v55 I55 δ55 hI55 HR55
    obtain ⟨zs55, rfl, hz55, hq55⟩ : ∃ zs, v55 = .tuple #[.int .i64 0, .bool true] ∧ zs.Perm [((8 : Int), (1 : Int)), (7, 2)] ∧ QE q 1 1 1 zs δ55 := by
      rcases HR55 with ⟨h, _⟩ | ⟨y, zs, h1, h2, h3, h4⟩
      · subst h; have := hp.length_eq; simp [q9_len] at this
      · have hy : y ∈ q9 3 := (hp.symm.trans h1).mem_iff.2 (List.mem_cons_self ..)
        have e3 : q9 3 = [((9 : Int), (0 : Int)), (8, 1), (7, 2)] := by decide
        have h5 : ∀ z ∈ ys, y.2 ≤ z.2 := h3
        have h6 := h5 (9, 0) (hp.mem_iff.2 (by rw [e3]; simp))
        rw [e3] at hy
        have hy0 : y = (9, 0) := by
          simp at hy
          rcases hy with rfl | rfl | rfl
          · rfl
          · simp at h6
          · simp at h6
        subst hy0
        exact ⟨zs, h2, (List.Perm.cons_inv (h1.symm.trans (e3 ▸ hp))), h4⟩
    refine op_v (v_move rfl) rfl ?_
    refine op_v (v_extract rfl rfl) rfl ?_
    refine op_v (v_extract rfl rfl) rfl ?_
    refine op_v (v_assign rfl) rfl ?_
    refine op_v (v_assign rfl) rfl ?_
    refine ops_nil ?_
    refine post_next ?_
    refine code_seq ?_
    refine code_region ?_
    refine op_v (v_move rfl) rfl ?_
    refine op_call pl35 rfl rfl ((QNext_does hq55 (by omega) (by omega) (by omega) (by omega))) (List.Perm.refl _) ?_
    rintro v60 I60 δ60 hI60 HR60
    obtain ⟨zs60, rfl, hz60, hq60⟩ : ∃ zs, v60 = .tuple #[.int .i64 2, .bool true] ∧ zs.length = 1 ∧ QE q 1 1 2 zs δ60 := by
      rcases HR60 with ⟨h, _⟩ | ⟨y, zs, h1, h2, h3, h4⟩
      · subst h; have := hz55.length_eq; simp at this
      · have hy := (hz55.symm.trans h1).mem_iff.2 (List.mem_cons_self ..)
        have h5 : ∀ z ∈ zs55, leI y z := h3
        have h6 := h5 (7, 2) (hz55.mem_iff.2 (by simp))
        have hy0 : y = (7, 2) := by
          simp at hy
          rcases hy with rfl | rfl
          · unfold leI at h6; simp at h6
          · rfl
        subst hy0
        have hl := (h1.symm.trans hz55).length_eq
        exact ⟨zs, h2, by simpa using hl, h4⟩
    refine OpsJ.view (View.perm (List.perm_append_comm (l₂ := [_, _, _, _]))) ?_
    refine op_v (v_move rfl) rfl ?_
    refine op_v (v_extract rfl rfl) rfl ?_
    refine op_v (v_extract rfl rfl) rfl ?_
    refine op_v (v_assign rfl) rfl ?_
    refine op_v (v_assign rfl) rfl ?_
    refine ops_nil ?_
    refine post_next ?_
    refine code_seq ?_
    refine code_region ?_
    first | refine op_v (v_fieldB 1 Try.underlying57 rfl rfl fz3 rfl) rfl ?_ | refine op_v (v_fieldI 1 Try.underlying57 rfl rfl fz3 rfl (by assumption)) rfl ?_ | refine op_v (v_field Try.underlying57 rfl fz3 rfl rfl) rfl ?_
    refine op_v (v_loadA ty3 rfl rfl) rfl ?_
    first | refine op_v (v_cmptA rfl rfl rfl) rfl ?_ | refine op_v (v_cmpfA rfl rfl rfl) rfl ?_ | refine op_v (v_cmp rfl rfl rfl) rfl ?_
    refine op_v (v_move rfl) rfl ?_
    first
      | (refine op_want rfl rfl ?_
         refine op_v (v_move rfl) rfl ?_)
      | (refine op_skip rfl rfl (by simp [undef]) rfl ?_)
    first | refine op_v (v_pickt rfl rfl) rfl ?_ | refine op_v (v_pickf rfl rfl) rfl ?_ | refine op_v (v_pickb rfl rfl rfl) rfl ?_
    refine op_v (v_move rfl) rfl ?_
    first
      | (refine op_want rfl rfl ?_
         refine op_v (v_move rfl) rfl ?_)
      | (refine op_skip rfl rfl (by simp [undef]) rfl ?_)
    first
      | (refine op_want rfl rfl ?_
         refine op_call pl30 rfl rfl ((HSize_does)) (List.perm_middle (l₁ := [_, _, _]) (l₂ := δ60)).symm ?_
         rintro v71 I71 _ hI71 ⟨rfl, rfl⟩
         rw [hl2]
         refine OpsJ.view (View.perm (List.perm_middle (l₁ := [_, _, _]) (l₂ := δ60))) ?_)
      | (refine op_skip rfl rfl (by simp [undef]) rfl ?_)
    first
      | (refine op_want rfl rfl ?_
         first | refine op_v (v_cmptA rfl rfl rfl) rfl ?_ | refine op_v (v_cmpfA rfl rfl rfl) rfl ?_ | refine op_v (v_cmp rfl rfl rfl) rfl ?_)
      | (refine op_skip rfl rfl (by simp [undef]) rfl ?_)
    first | refine op_v (v_pickt rfl rfl) rfl ?_ | refine op_v (v_pickf rfl rfl) rfl ?_ | refine op_v (v_pickb rfl rfl rfl) rfl ?_
    refine op_v (v_move rfl) rfl ?_
    first
      | (refine op_want rfl rfl ?_
         refine op_v (v_move rfl) rfl ?_)
      | (refine op_skip rfl rfl (by simp [undef]) rfl ?_)
    first
      | (refine op_want rfl rfl ?_
         first | refine op_v (v_cmptA rfl rfl rfl) rfl ?_ | refine op_v (v_cmpfA rfl rfl rfl) rfl ?_ | refine op_v (v_cmp rfl rfl rfl) rfl ?_)
      | (refine op_skip rfl rfl (by simp [undef]) rfl ?_)
    first | refine op_v (v_pickt rfl rfl) rfl ?_ | refine op_v (v_pickf rfl rfl) rfl ?_ | refine op_v (v_pickb rfl rfl rfl) rfl ?_
    refine op_v (v_move rfl) rfl ?_
    first
      | (refine op_want rfl rfl ?_
         refine op_v (v_move rfl) rfl ?_)
      | (refine op_skip rfl rfl (by simp [undef]) rfl ?_)
    first | refine op_v (v_pickt rfl rfl) rfl ?_ | refine op_v (v_pickf rfl rfl) rfl ?_ | refine op_v (v_pickb rfl rfl rfl) rfl ?_
    refine op_v (v_move rfl) rfl ?_
    first
      | (refine op_want rfl rfl ?_
         refine op_v (v_move rfl) rfl ?_)
      | (refine op_skip rfl rfl (by simp [undef]) rfl ?_)
    first
      | (refine op_want rfl rfl ?_
         first | refine op_v (v_cmptA rfl rfl rfl) rfl ?_ | refine op_v (v_cmpfA rfl rfl rfl) rfl ?_ | refine op_v (v_cmp rfl rfl rfl) rfl ?_)
      | (refine op_skip rfl rfl (by simp [undef]) rfl ?_)
    first | refine op_v (v_pickt rfl rfl) rfl ?_ | refine op_v (v_pickf rfl rfl) rfl ?_ | refine op_v (v_pickb rfl rfl rfl) rfl ?_
    refine op_v (v_move rfl) rfl ?_
    first
      | (refine op_want rfl rfl ?_
         refine op_v (v_move rfl) rfl ?_)
      | (refine op_skip rfl rfl (by simp [undef]) rfl ?_)
    first | refine op_v (v_pickt rfl rfl) rfl ?_ | refine op_v (v_pickf rfl rfl) rfl ?_ | refine op_v (v_pickb rfl rfl rfl) rfl ?_
    refine op_v (v_move rfl) rfl ?_
    first
      | (refine op_want rfl rfl ?_
         refine op_v (v_move rfl) rfl ?_)
      | (refine op_skip rfl rfl (by simp [undef]) rfl ?_)
    first
      | (refine op_want rfl rfl ?_
         refine op_call pl38 rfl rfl ((QSize_does hq60)) (List.perm_append_comm (l₁ := [_, _, _, _])) ?_
         rintro v90 I90 δ90 hI90 ⟨rfl, hq90⟩
         rw [hz60])
      | (refine op_skip rfl rfl (by simp [undef]) rfl ?_)
    first
      | (refine op_want rfl rfl ?_
         first | refine op_v (v_cmptA rfl rfl rfl) rfl ?_ | refine op_v (v_cmpfA rfl rfl rfl) rfl ?_ | refine op_v (v_cmp rfl rfl rfl) rfl ?_)
      | (refine op_skip rfl rfl (by simp [undef]) rfl ?_)
    first | refine op_v (v_pickt rfl rfl) rfl ?_ | refine op_v (v_pickf rfl rfl) rfl ?_ | refine op_v (v_pickb rfl rfl rfl) rfl ?_
    refine op_v (v_assign rfl) rfl ?_
    refine ops_nil ?_
    refine post_next ?_
    refine code_ret ?_
    refine post_ret (rs := [.tmp 0]) rfl (List.Perm.refl _) (.cons (.tmp rfl) .nil) (List.nil_sublist _) ?_
    exact ⟨rfl, rfl⟩
end Go.Proofs.Ythbcdffldcdfoaa
