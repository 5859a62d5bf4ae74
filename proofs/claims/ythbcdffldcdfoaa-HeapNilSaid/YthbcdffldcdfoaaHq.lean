/- Walks: a queue made, one more, one fewer. -/
import Derived.Test.YthbcdffldcdfoaaHe
set_option linter.unusedVariables false
set_option linter.unusedSimpArgs false
set_option linter.unnecessarySimpa false
/- short -/
namespace Go.Proofs.Ythbcdffldcdfoaa
open Go Lg

structure Qa where
  qb : Nat
  ha : Nat
  ma : Nat
  hw : Nat
  mw : Nat
abbrev qBox (q : Qa) (a w told : Nat) : Ent := .box q.qb 104 [.pointer (some ⟨q.ha, 0, none⟩), .int .i64 a, .pointer (some ⟨q.hw, 0, none⟩), .int .i64 w, .int .i64 told]
/-- a queue: what stands in its heaps -/
structure QOK (xs ys : List It) (mp mq : Mp) : Prop where
  same : (xs.map (·.2)).Perm (ys.map (·.2))
  eq : ∀ x ∈ xs, x.1 = x.2
  lx : xs.length ≤ 4096
  ox : AtOK xs mp
  hx : IsHeap xs
  oy : AtOK ys mq
  hy : IsHeap ys
theorem QOK.len {xs ys : List It} {mp mq : Mp} (h : QOK xs ys mp mq) : xs.length = ys.length := by have := h.same.length_eq; simpa using this
def QE (q : Qa) (a w told : Nat) (ys : List It) (δ : List Ent) : Prop := ∃ Aa ca xs mp Aw cw mq, QOK xs ys mp mq ∧ δ = qBox q a w told :: (HeapE q.ha q.ma Aa ca xs mp ++ HeapE q.hw q.mw Aw cw ys mq)
theorem nodup_ids {xs : List It} {mp : Mp} (h : AtOK xs mp) : (xs.map (·.2)).Nodup := by
  refine List.pairwise_iff_getElem.2 fun i j hi hj hij e => ?_
  simp only [List.length_map] at hi hj
  simp only [List.getElem_map] at e
  have := h.inj hi hj (by rw [gt_at hi, gt_at hj]; exact e)
  omega
theorem Ratio_does {I : Imm} {a w : Int} :
    Does Try.prog 32 [.int .i64 a, .int .i64 w] I [] (fun v _ δ' => ((a < 0 ∨ w < 0 ∨ 16 < a ∨ 16 < w ∨ a + w = 0) ∧ v = .tuple #[.pointer none, .int .i64 1] ∧ δ' = []) ∨ (¬ (a < 0 ∨ w < 0 ∨ 16 < a ∨ 16 < w ∨ a + w = 0) ∧ ∃ q, v = .tuple #[.pointer (some ⟨q.qb, 0, none⟩), .int .i64 0] ∧ QE q a.toNat w.toNat 0 [] δ')) := by
  refine Does.intro Try.func32 rfl Try.ntmps32 rfl fun w0 => ?_
  refine code_seq ?_
  refine code_region ?_
  refine op_v (v_assign rfl) rfl ?_
  refine op_v (v_assign rfl) rfl ?_
  refine ops_nil ?_
  refine post_next ?_
  refine code_seq ?_
  refine code_seq ?_
  refine code_region ?_
  refine op_v (v_move rfl) rfl ?_
  refine op_v (v_move rfl) rfl ?_
  refine op_v (v_min rfl rfl) rfl ?_
  by_cases h9 : min a w < 0
  · first | refine op_v (v_cmptA rfl rfl rfl) rfl ?_ | refine op_v (v_cmpfA rfl rfl rfl) rfl ?_ | refine op_v (v_cmp rfl rfl rfl) rfl ?_
    refine op_v (v_move rfl) rfl ?_
    first
      | (refine op_want rfl rfl ?_
         refine op_v (v_move rfl) rfl ?_)
      | (refine op_skip rfl rfl (by simp [undef]) rfl ?_)
    first
      | (refine op_want rfl rfl ?_
         refine op_v (v_move rfl) rfl ?_)
      | (refine op_skip rfl rfl (by simp [undef]) rfl ?_)
    first
      | (refine op_want rfl rfl ?_
         refine op_v (v_max rfl rfl) rfl ?_)
      | (refine op_skip rfl rfl (by simp [undef]) rfl ?_)
    first
      | (refine op_want rfl rfl ?_
         first | refine op_v (v_cmptA rfl rfl rfl) rfl ?_ | refine op_v (v_cmpfA rfl rfl rfl) rfl ?_ | refine op_v (v_cmp rfl rfl rfl) rfl ?_)
      | (refine op_skip rfl rfl (by simp [undef]) rfl ?_)
    first | refine op_v (v_pickt rfl rfl) rfl ?_ | refine op_v (v_pickf rfl rfl) rfl ?_ | refine op_v (v_pickb rfl rfl rfl) rfl ?_
    refine op_v (v_move rfl) rfl ?_
    first
      | (refine op_want rfl rfl ?_
         refine op_v (v_move rfl) rfl ?_)
      | (refine op_skip rfl rfl (by simp [undef]) rfl ?_)
    first
      | (refine op_want rfl rfl ?_
         refine op_v (v_move rfl) rfl ?_)
      | (refine op_skip rfl rfl (by simp [undef]) rfl ?_)
    first
      | (refine op_want rfl rfl ?_
         refine op_v (v_addb (c := a + w) rfl rfl rfl ⟨by omega, by omega⟩) rfl ?_)
      | (refine op_skip rfl rfl (by simp [undef]) rfl ?_)
    first
      | (refine op_want rfl rfl ?_
         first | refine op_v (v_cmptA rfl rfl rfl) rfl ?_ | refine op_v (v_cmpfA rfl rfl rfl) rfl ?_ | refine op_v (v_cmp rfl rfl rfl) rfl ?_)
      | (refine op_skip rfl rfl (by simp [undef]) rfl ?_)
    first | refine op_v (v_pickt rfl rfl) rfl ?_ | refine op_v (v_pickf rfl rfl) rfl ?_ | refine op_v (v_pickb rfl rfl rfl) rfl ?_
    refine ops_nil ?_
    refine post_next ?_
    refine code_cond_t rfl ?_
    refine code_seq ?_
    refine code_region ?_
    refine op_v (v_assign rfl) rfl ?_
    refine op_v (v_assign rfl) rfl ?_
    refine ops_nil ?_
    refine post_next ?_
    refine code_ret ?_
    refine post_ret_then ?_
    refine post_ret (rs := [.tmp 4, .tmp 5]) rfl (List.Perm.refl _) (.cons (.tmp rfl) (.cons (.tmp rfl) .nil)) (List.Sublist.refl _) ?_
    exact .inl ⟨by omega, rfl, rfl⟩
  · first | refine op_v (v_cmptA rfl rfl rfl) rfl ?_ | refine op_v (v_cmpfA rfl rfl rfl) rfl ?_ | refine op_v (v_cmp rfl rfl rfl) rfl ?_
    refine op_v (v_move rfl) rfl ?_
    first
      | (refine op_want rfl rfl ?_
         refine op_v (v_move rfl) rfl ?_)
      | (refine op_skip rfl rfl (by simp [undef]) rfl ?_)
    first
      | (refine op_want rfl rfl ?_
         refine op_v (v_move rfl) rfl ?_)
      | (refine op_skip rfl rfl (by simp [undef]) rfl ?_)
    first
      | (refine op_want rfl rfl ?_
         refine op_v (v_max rfl rfl) rfl ?_)
      | (refine op_skip rfl rfl (by simp [undef]) rfl ?_)
    by_cases h14 : 16 < max a w
    · first
        | (refine op_want rfl rfl ?_
           first | refine op_v (v_cmptA rfl rfl rfl) rfl ?_ | refine op_v (v_cmpfA rfl rfl rfl) rfl ?_ | refine op_v (v_cmp rfl rfl rfl) rfl ?_)
        | (refine op_skip rfl rfl (by simp [undef]) rfl ?_)
      first | refine op_v (v_pickt rfl rfl) rfl ?_ | refine op_v (v_pickf rfl rfl) rfl ?_ | refine op_v (v_pickb rfl rfl rfl) rfl ?_
      refine op_v (v_move rfl) rfl ?_
      first
        | (refine op_want rfl rfl ?_
           refine op_v (v_move rfl) rfl ?_)
        | (refine op_skip rfl rfl (by simp [undef]) rfl ?_)
      first
        | (refine op_want rfl rfl ?_
           refine op_v (v_move rfl) rfl ?_)
        | (refine op_skip rfl rfl (by simp [undef]) rfl ?_)
      first
        | (refine op_want rfl rfl ?_
           refine op_v (v_addb (c := a + w) rfl rfl rfl ⟨by omega, by omega⟩) rfl ?_)
        | (refine op_skip rfl rfl (by simp [undef]) rfl ?_)
      first
        | (refine op_want rfl rfl ?_
           first | refine op_v (v_cmptA rfl rfl rfl) rfl ?_ | refine op_v (v_cmpfA rfl rfl rfl) rfl ?_ | refine op_v (v_cmp rfl rfl rfl) rfl ?_)
        | (refine op_skip rfl rfl (by simp [undef]) rfl ?_)
      first | refine op_v (v_pickt rfl rfl) rfl ?_ | refine op_v (v_pickf rfl rfl) rfl ?_ | refine op_v (v_pickb rfl rfl rfl) rfl ?_
      refine ops_nil ?_
      refine post_next ?_
      refine code_cond_t rfl ?_
      refine code_seq ?_
      refine code_region ?_
      refine op_v (v_assign rfl) rfl ?_
      refine op_v (v_assign rfl) rfl ?_
      refine ops_nil ?_
      refine post_next ?_
      refine code_ret ?_
      refine post_ret_then ?_
      refine post_ret (rs := [.tmp 4, .tmp 5]) rfl (List.Perm.refl _) (.cons (.tmp rfl) (.cons (.tmp rfl) .nil)) (List.Sublist.refl _) ?_
      exact .inl ⟨by omega, rfl, rfl⟩
    · first
        | (refine op_want rfl rfl ?_
           first | refine op_v (v_cmptA rfl rfl rfl) rfl ?_ | refine op_v (v_cmpfA rfl rfl rfl) rfl ?_ | refine op_v (v_cmp rfl rfl rfl) rfl ?_)
        | (refine op_skip rfl rfl (by simp [undef]) rfl ?_)
      first | refine op_v (v_pickt rfl rfl) rfl ?_ | refine op_v (v_pickf rfl rfl) rfl ?_ | refine op_v (v_pickb rfl rfl rfl) rfl ?_
      refine op_v (v_move rfl) rfl ?_
      first
        | (refine op_want rfl rfl ?_
           refine op_v (v_move rfl) rfl ?_)
        | (refine op_skip rfl rfl (by simp [undef]) rfl ?_)
      first
        | (refine op_want rfl rfl ?_
           refine op_v (v_move rfl) rfl ?_)
        | (refine op_skip rfl rfl (by simp [undef]) rfl ?_)
      first
        | (refine op_want rfl rfl ?_
           refine op_v (v_addb (c := a + w) rfl rfl rfl ⟨by omega, by omega⟩) rfl ?_)
        | (refine op_skip rfl rfl (by simp [undef]) rfl ?_)
      by_cases h20 : a + w = 0
      · first
          | (refine op_want rfl rfl ?_
             first | refine op_v (v_cmptA rfl rfl rfl) rfl ?_ | refine op_v (v_cmpfA rfl rfl rfl) rfl ?_ | refine op_v (v_cmp rfl rfl rfl) rfl ?_)
          | (refine op_skip rfl rfl (by simp [undef]) rfl ?_)
        first | refine op_v (v_pickt rfl rfl) rfl ?_ | refine op_v (v_pickf rfl rfl) rfl ?_ | refine op_v (v_pickb rfl rfl rfl) rfl ?_
        refine ops_nil ?_
        refine post_next ?_
        refine code_cond_t rfl ?_
        refine code_seq ?_
        refine code_region ?_
        refine op_v (v_assign rfl) rfl ?_
        refine op_v (v_assign rfl) rfl ?_
        refine ops_nil ?_
        refine post_next ?_
        refine code_ret ?_
        refine post_ret_then ?_
        refine post_ret (rs := [.tmp 4, .tmp 5]) rfl (List.Perm.refl _) (.cons (.tmp rfl) (.cons (.tmp rfl) .nil)) (List.Sublist.refl _) ?_
        exact .inl ⟨by omega, rfl, rfl⟩
      · obtain ⟨an, rfl⟩ : ∃ n : Nat, a = n := ⟨a.toNat, by omega⟩
        obtain ⟨wn, rfl⟩ : ∃ n : Nat, w = n := ⟨w.toNat, by omega⟩
        first
          | (refine op_want rfl rfl ?_
             first | refine op_v (v_cmptA rfl rfl rfl) rfl ?_ | refine op_v (v_cmpfA rfl rfl rfl) rfl ?_ | refine op_v (v_cmp rfl rfl rfl) rfl ?_)
          | (refine op_skip rfl rfl (by simp [undef]) rfl ?_)
        first | refine op_v (v_pickt rfl rfl) rfl ?_ | refine op_v (v_pickf rfl rfl) rfl ?_ | refine op_v (v_pickb rfl rfl rfl) rfl ?_
        refine ops_nil ?_
        refine post_next ?_
        refine code_cond_f rfl ?_
        refine code_skip ?_
        refine post_next ?_
        refine code_seq ?_
        refine code_region ?_
        refine op_call pl23 rfl rfl ((HNew_does _)) Parts.none ?_
        rintro v22 I22 _ hI22 ⟨h1, m1, rfl, rfl⟩
        refine op_v (v_move rfl) rfl ?_
        refine op_v (v_build bl102 rfl rfl) rfl ?_
        refine op_call pl23 rfl rfl ((HNew_does _)) Parts.none ?_
        rintro v25 I25 _ hI25 ⟨h2, m2, rfl, rfl⟩
        refine op_v (v_move rfl) rfl ?_
        refine op_v (v_build bl102 rfl rfl) rfl ?_
        refine op_v (v_build bl104 rfl rfl) rfl ?_
        refine o_box rfl rfl rfl (fun b29 => ?_)
        refine OpsJ.view (View.perm (List.Perm.cons _ (List.perm_append_comm (l₁ := [_, _, _]) (l₂ := [_, _, _])))) ?_
        refine op_v (v_assign rfl) rfl ?_
        refine op_v (v_assign rfl) rfl ?_
        refine ops_nil ?_
        refine post_next ?_
        refine code_ret ?_
        refine post_ret (rs := [.tmp 4, .tmp 5]) rfl (List.Perm.refl _) (.cons (.tmp rfl) (.cons (.tmp rfl) .nil)) (List.Sublist.refl _) ?_
        exact .inr ⟨by omega, ⟨b29, h1, m1, h2, m2⟩, rfl, none, 0, [], [], none, 0, [], ⟨List.Perm.refl _, (fun x h => nomatch h), (by simp), ⟨(fun j h => absurd h (by simp)), fun _ _ => rfl⟩, (fun j _ h => absurd h (by simp)), ⟨(fun j h => absurd h (by simp)), fun _ _ => rfl⟩, (fun j _ h => absurd h (by simp))⟩, rfl⟩
theorem QOK.ids {xs ys : List It} {mp mq : Mp} (h : QOK xs ys mp mq) (id : Int) : id ∈ xs.map (·.2) ↔ id ∈ ys.map (·.2) := h.same.mem_iff
theorem QPut_does {I : Imm} {q : Qa} {a w told : Nat} {ys : List It} {δ : List Ent} {id k : Int} (hq : QE q a w told ys δ) :
    Does Try.prog 34 [.pointer (some ⟨q.qb, 0, none⟩), .int .i64 id, .int .i64 k] I δ (fun v _ δ' => ∃ e zs, v = .int .i64 e ∧ PutH ys (k, id) e zs ∧ QE q a w told zs δ') := by
  obtain ⟨Aa, ca, xs, mp, Aw, cw, mq, hok, rfl⟩ := hq
  have hlen := hok.len
  have hlx := hok.lx
  refine Does.intro Try.func34 rfl Try.ntmps34 rfl fun w0 => ?_
  refine code_seq ?_
  refine code_region ?_
  refine op_v (v_assign rfl) rfl ?_
  refine ops_nil ?_
  refine post_next ?_
  refine code_seq ?_
  refine code_seq ?_
  refine code_region ?_
  refine op_v (v_move rfl) rfl ?_
  refine op_v (v_ptrq (z := false) Try.underlying62 rfl rfl rfl) rfl ?_
  refine ops_nil ?_
  refine post_next ?_
  refine code_cond_f rfl ?_
  refine code_skip ?_
  refine post_next ?_
  refine code_seq ?_
  refine code_seq ?_
  refine code_region ?_
  refine op_v (v_move rfl) rfl ?_
  refine op_v (v_nilCheck rfl) rfl ?_
  first | refine op_v (v_fieldB 0 Try.underlying104 rfl rfl fz102 rfl) rfl ?_ | refine op_v (v_fieldI 0 Try.underlying104 rfl rfl fz102 rfl (by assumption)) rfl ?_ | refine op_v (v_field Try.underlying104 rfl fz102 rfl rfl) rfl ?_
  first | refine op_v (v_fieldB 0 Try.underlying102 rfl rfl fz48 rfl) rfl ?_ | refine op_v (v_fieldI 0 Try.underlying102 rfl rfl fz48 rfl (by assumption)) rfl ?_ | refine op_v (v_field Try.underlying102 rfl fz48 rfl rfl) rfl ?_
  refine op_v (v_loadA ty48 rfl rfl) rfl ?_
  refine op_v (v_move rfl) rfl ?_
  refine op_v (v_move rfl) rfl ?_
  refine op_v (v_build bl57 rfl rfl) rfl ?_
  refine op_call pl24 rfl rfl ((HPut_does (x := (id, id)) hok.lx hok.ox hok.hx)) (List.perm_middle (l₁ := [_, _, _]) (l₂ := [_, _, _])).symm ?_
  rintro v18 I18 _ hI18 ⟨e1, A1, c1, xs1, mp1, rfl, hr1, hl1, ho1, hh1, rfl⟩
  refine OpsJ.view (View.perm (List.perm_middle (l₁ := [_, _, _]) (l₂ := [_, _, _]))) ?_
  refine op_v (v_assign rfl) rfl ?_
  refine ops_nil ?_
  refine post_next ?_
  refine code_seq ?_
  refine code_region ?_
  refine op_v (v_move rfl) rfl ?_
  by_cases h20 : e1 ≠ 0
  · first | refine op_v (v_cmptA rfl rfl rfl) rfl ?_ | refine op_v (v_cmpfA rfl rfl rfl) rfl ?_ | refine op_v (v_cmp rfl rfl rfl) rfl ?_
    refine ops_nil ?_
    refine post_next ?_
    refine code_cond_t rfl ?_
    refine code_seq ?_
    refine code_region ?_
    refine op_v (v_move rfl) rfl ?_
    refine op_v (v_assign rfl) rfl ?_
    refine ops_nil ?_
    refine post_next ?_
    refine code_ret ?_
    refine post_ret_then ?_
    refine post_ret (rs := [.tmp 6]) rfl (List.Perm.refl _) (.cons (.tmp rfl) .nil) (List.Sublist.refl _) ?_
    rcases hr1 with ⟨h1, h2, h3⟩ | ⟨h1, h1', h2, h3⟩ | ⟨_, _, h2, _⟩
    · subst h3; exact ⟨e1, ys, rfl, .inl ⟨(hok.ids id).1 h1, h2, rfl⟩, A1, c1, xs1, mp1, Aw, cw, mq, ⟨hok.same, hok.eq, hl1, ho1, hh1, hok.oy, hok.hy⟩, rfl⟩
    · subst h3; exact ⟨e1, ys, rfl, .inr (.inl ⟨fun hm => h1 ((hok.ids id).2 hm), by omega, h2, rfl⟩), A1, c1, xs1, mp1, Aw, cw, mq, ⟨hok.same, hok.eq, hl1, ho1, hh1, hok.oy, hok.hy⟩, rfl⟩
    · exact absurd h2 h20
  · obtain ⟨hn, hlt, he0, hp1⟩ : id ∉ xs.map (·.2) ∧ xs.length < 4096 ∧ e1 = 0 ∧ xs1.Perm (xs ++ [(id, id)]) := by
      rcases hr1 with ⟨h1, h2, h3⟩ | ⟨h1, h1', h2, h3⟩ | h
      · omega
      · omega
      · exact h
    first | refine op_v (v_cmptA rfl rfl rfl) rfl ?_ | refine op_v (v_cmpfA rfl rfl rfl) rfl ?_ | refine op_v (v_cmp rfl rfl rfl) rfl ?_
    refine ops_nil ?_
    refine post_next ?_
    refine code_cond_f rfl ?_
    refine code_skip ?_
    refine post_next ?_
    refine code_seq ?_
    refine code_region ?_
    refine op_v (v_move rfl) rfl ?_
    refine op_v (v_nilCheck rfl) rfl ?_
    first | refine op_v (v_fieldB 2 Try.underlying104 rfl rfl fz102 rfl) rfl ?_ | refine op_v (v_fieldI 2 Try.underlying104 rfl rfl fz102 rfl (by assumption)) rfl ?_ | refine op_v (v_field Try.underlying104 rfl fz102 rfl rfl) rfl ?_
    first | refine op_v (v_fieldB 0 Try.underlying102 rfl rfl fz48 rfl) rfl ?_ | refine op_v (v_fieldI 0 Try.underlying102 rfl rfl fz48 rfl (by assumption)) rfl ?_ | refine op_v (v_field Try.underlying102 rfl fz48 rfl rfl) rfl ?_
    refine op_v (v_loadA ty48 rfl rfl) rfl ?_
    refine op_v (v_move rfl) rfl ?_
    refine op_v (v_move rfl) rfl ?_
    refine op_v (v_build bl57 rfl rfl) rfl ?_
    refine op_call pl24 rfl rfl ((HPut_does (x := (k, id)) (by omega) hok.oy hok.hy)) ((List.Perm.cons _ (List.perm_append_comm (l₁ := [_, _, _]) (l₂ := [_, _, _]))).trans (List.perm_middle (l₁ := [_, _, _]) (l₂ := [_, _, _])).symm) ?_
    rintro v30 I30 _ hI30 ⟨e2, A2, c2, ys2, mq2, rfl, hr2, hl2, ho2, hh2, rfl⟩
    refine OpsJ.view (View.perm ((List.perm_middle (l₁ := [_, _, _]) (l₂ := [_, _, _])).trans (List.Perm.cons _ (List.perm_append_comm (l₁ := [_, _, _]) (l₂ := [_, _, _]))))) ?_
    refine op_v (v_assign rfl) rfl ?_
    refine ops_nil ?_
    refine post_next ?_
    refine code_ret ?_
    refine post_ret (rs := [.tmp 6]) rfl (List.Perm.refl _) (.cons (.tmp rfl) .nil) (List.Sublist.refl _) ?_
    refine ⟨e2, ys2, rfl, hr2, A1, c1, xs1, mp1, A2, c2, mq2, ⟨?_, ?_, hl1, ho1, hh1, ho2, hh2⟩, rfl⟩
    · rcases hr2 with ⟨h1, _, _⟩ | ⟨_, h1, _, _⟩ | ⟨_, _, _, hp2⟩
      · exact absurd ((hok.ids id).2 h1) hn
      · omega
      · have e1' := hp1.map (fun x : It => x.2)
        have e2' := hp2.map (fun x : It => x.2)
        rw [List.map_append] at e1' e2'
        exact e1'.trans ((hok.same.append_right _).trans e2'.symm)
    · intro x hx
      rcases List.mem_append.1 (hp1.mem_iff.1 hx) with h | h
      · exact hok.eq x h
      · simp at h; rw [h]
theorem QSize_does {I : Imm} {q : Qa} {a w told : Nat} {ys : List It} {δ : List Ent} (hq : QE q a w told ys δ) :
    Does Try.prog 38 [.pointer (some ⟨q.qb, 0, none⟩)] I δ (fun v _ δ' => v = .int .i64 ys.length ∧ QE q a w told ys δ') := by
  obtain ⟨Aa, ca, xs, mp, Aw, cw, mq, hok, rfl⟩ := hq
  have hlen := hok.len
  refine Does.intro Try.func38 rfl Try.ntmps38 rfl fun w0 => ?_
  refine code_seq ?_
  refine code_region ?_
  refine op_v (v_assign rfl) rfl ?_
  refine ops_nil ?_
  refine post_next ?_
  refine code_seq ?_
  refine code_seq ?_
  refine code_region ?_
  refine op_v (v_move rfl) rfl ?_
  refine op_v (v_ptrq (z := false) Try.underlying62 rfl rfl rfl) rfl ?_
  refine ops_nil ?_
  refine post_next ?_
  refine code_cond_f rfl ?_
  refine code_skip ?_
  refine post_next ?_
  refine code_seq ?_
  refine code_region ?_
  refine op_v (v_move rfl) rfl ?_
  refine op_v (v_nilCheck rfl) rfl ?_
  first | refine op_v (v_fieldB 0 Try.underlying104 rfl rfl fz102 rfl) rfl ?_ | refine op_v (v_fieldI 0 Try.underlying104 rfl rfl fz102 rfl (by assumption)) rfl ?_ | refine op_v (v_field Try.underlying104 rfl fz102 rfl rfl) rfl ?_
  first | refine op_v (v_fieldB 0 Try.underlying102 rfl rfl fz48 rfl) rfl ?_ | refine op_v (v_fieldI 0 Try.underlying102 rfl rfl fz48 rfl (by assumption)) rfl ?_ | refine op_v (v_field Try.underlying102 rfl fz48 rfl rfl) rfl ?_
  refine op_v (v_loadA ty48 rfl rfl) rfl ?_
  refine op_call pl30 rfl rfl ((HSize_does)) (List.perm_middle (l₁ := [_, _, _]) (l₂ := [_, _, _])).symm ?_
  rintro v10 I10 _ hI10 ⟨rfl, rfl⟩
  refine OpsJ.view (View.perm (List.perm_middle (l₁ := [_, _, _]) (l₂ := [_, _, _]))) ?_
  refine op_v (v_assign rfl) rfl ?_
  refine ops_nil ?_
  refine post_next ?_
  refine code_ret ?_
  refine post_ret (rs := [.tmp 2]) rfl (List.Perm.refl _) (.cons (.tmp rfl) .nil) (List.Sublist.refl _) ?_
  exact ⟨by rw [← hlen]; rfl, Aa, ca, xs, mp, Aw, cw, mq, hok, rfl⟩
theorem QDrop_does {I : Imm} {q : Qa} {a w told : Nat} {ys : List It} {δ : List Ent} {id : Int} (hq : QE q a w told ys δ) :
    Does Try.prog 37 [.pointer (some ⟨q.qb, 0, none⟩), .int .i64 id] I δ (fun v _ δ' => ∃ b zs, v = .bool b ∧ DropH ys id b zs ∧ QE q a w told zs δ') := by
  obtain ⟨Aa, ca, xs, mp, Aw, cw, mq, hok, rfl⟩ := hq
  have hlen := hok.len
  have hlx := hok.lx
  refine Does.intro Try.func37 rfl Try.ntmps37 rfl fun w0 => ?_
  refine code_seq ?_
  refine code_region ?_
  refine op_v (v_assign rfl) rfl ?_
  refine ops_nil ?_
  refine post_next ?_
  refine code_seq ?_
  refine code_seq ?_
  refine code_region ?_
  refine op_v (v_move rfl) rfl ?_
  refine op_v (v_ptrq (z := false) Try.underlying62 rfl rfl rfl) rfl ?_
  refine ops_nil ?_
  refine post_next ?_
  refine code_cond_f rfl ?_
  refine code_skip ?_
  refine post_next ?_
  refine code_seq ?_
  refine code_region ?_
  refine op_v (v_move rfl) rfl ?_
  refine op_v (v_nilCheck rfl) rfl ?_
  first | refine op_v (v_fieldB 2 Try.underlying104 rfl rfl fz102 rfl) rfl ?_ | refine op_v (v_fieldI 2 Try.underlying104 rfl rfl fz102 rfl (by assumption)) rfl ?_ | refine op_v (v_field Try.underlying104 rfl fz102 rfl rfl) rfl ?_
  first | refine op_v (v_fieldB 0 Try.underlying102 rfl rfl fz48 rfl) rfl ?_ | refine op_v (v_fieldI 0 Try.underlying102 rfl rfl fz48 rfl (by assumption)) rfl ?_ | refine op_v (v_field Try.underlying102 rfl fz48 rfl rfl) rfl ?_
  refine op_v (v_loadA ty48 rfl rfl) rfl ?_
  refine op_v (v_move rfl) rfl ?_
  refine op_call pl26 rfl rfl ((HDrop_does (id := id) (by omega) hok.oy hok.hy)) ((List.Perm.cons _ (List.perm_append_comm (l₁ := [_, _, _]) (l₂ := [_, _, _]))).trans (List.perm_middle (l₁ := [_, _, _]) (l₂ := [_, _, _])).symm) ?_
  rintro v13 I13 _ hI13 ⟨b2, ys2, mq2, rfl, hr2, hl2, ho2, hh2, rfl⟩
  refine OpsJ.view (View.perm ((List.perm_middle (l₁ := [_, _, _]) (l₂ := [_, _, _])).trans (List.Perm.cons _ (List.perm_append_comm (l₁ := [_, _, _]) (l₂ := [_, _, _]))))) ?_
  refine ops_nil ?_
  refine post_next ?_
  refine code_seq ?_
  refine code_region ?_
  refine op_v (v_move rfl) rfl ?_
  refine op_v (v_nilCheck rfl) rfl ?_
  first | refine op_v (v_fieldB 0 Try.underlying104 rfl rfl fz102 rfl) rfl ?_ | refine op_v (v_fieldI 0 Try.underlying104 rfl rfl fz102 rfl (by assumption)) rfl ?_ | refine op_v (v_field Try.underlying104 rfl fz102 rfl rfl) rfl ?_
  first | refine op_v (v_fieldB 0 Try.underlying102 rfl rfl fz48 rfl) rfl ?_ | refine op_v (v_fieldI 0 Try.underlying102 rfl rfl fz48 rfl (by assumption)) rfl ?_ | refine op_v (v_field Try.underlying102 rfl fz48 rfl rfl) rfl ?_
  refine op_v (v_loadA ty48 rfl rfl) rfl ?_
  refine op_v (v_move rfl) rfl ?_
  refine op_call pl26 rfl rfl ((HDrop_does (id := id) hok.lx hok.ox hok.hx)) (List.perm_middle (l₁ := [_, _, _]) (l₂ := [_, _, _])).symm ?_
  rintro v20 I20 _ hI20 ⟨b1, xs1, mp1, rfl, hr1, hl1, ho1, hh1, rfl⟩
  refine OpsJ.view (View.perm (List.perm_middle (l₁ := [_, _, _]) (l₂ := [_, _, _]))) ?_
  refine op_v (v_assign rfl) rfl ?_
  refine ops_nil ?_
  refine post_next ?_
  refine code_ret ?_
  refine post_ret (rs := [.tmp 4]) rfl (List.Perm.refl _) (.cons (.tmp rfl) .nil) (List.Sublist.refl _) ?_
  rcases hr1 with ⟨h1, rfl, rfl⟩ | ⟨x, hx, rfl, hp1⟩ <;> rcases hr2 with ⟨k1, rfl, rfl⟩ | ⟨y, hy, rfl, hp2⟩
  · exact ⟨false, ys2, rfl, .inl ⟨k1, rfl, rfl⟩, Aa, ca, xs1, mp1, Aw, cw, mq2, ⟨hok.same, hok.eq, hl1, ho1, hh1, ho2, hh2⟩, rfl⟩
  · exact absurd ((hok.ids id).2 (by rw [← hy]; exact List.mem_map_of_mem (f := fun x : It => x.2) (hp2.mem_iff.2 (List.mem_cons_self ..)))) h1
  · exact absurd ((hok.ids id).1 (by rw [← hx]; exact List.mem_map_of_mem (f := fun x : It => x.2) (hp1.mem_iff.2 (List.mem_cons_self ..)))) k1
  · refine ⟨true, ys2, rfl, .inr ⟨y, hy, rfl, hp2⟩, Aa, ca, xs1, mp1, Aw, cw, mq2, ⟨?_, fun z hz => hok.eq z (hp1.mem_iff.2 (List.mem_cons_of_mem _ hz)), hl1, ho1, hh1, ho2, hh2⟩, rfl⟩
    have e1 := hp1.map (fun x : It => x.2)
    have e2 := hp2.map (fun x : It => x.2)
    rw [List.map_cons, hx] at e1
    rw [List.map_cons, hy] at e2
    exact (e1.symm.trans (hok.same.trans e2)).cons_inv
end Go.Proofs.Ythbcdffldcdfoaa
